/- Written by a program of this session (gprint.py, over the kit's printer): functions of the seat YtjedbamcjgabpaaDoor and their contracts. No condition but each contract's own. -/
import Derived.Test.YtjedbamcjgabpaaDoorPSox0
import Derived.Test.YtjedbamcjgabpaaDoorPSoVesperlaw13Awake
import Derived.Test.YtjedbamcjgabpaaDoorSrcG
namespace Go.Proofs.YtjedbamcjgabpaaDoor.PSo
open Go.RowKit Go.Proofs.YtjedbamcjgabpaaDoorW.PrintWords Go.Proofs.YtjedbamcjgabpaaDoorW.PrintLast Go.Proofs.YtjedbamcjgabpaaDoorW.PrintMore
open Go.Proofs.YtjedbamcjgabpaaDoor.Src (GOk)
attribute [local go_sem] max2_int min2_int max_two min_two max_three min_three max_four min_four   -- for this text's walks alone
set_option linter.unusedVariables false
set_option linter.unusedSimpArgs false

/-! ### vesperlaw13_SourceNumbers: function 3 -/
def vesperlaw13_SourceNumbers.f (k : Nat)  : Option (Bool) := (vesperlaw13_awake.f k).bind fun t204 => (if t204 = true then (some true) else (some false))
theorem vesperlaw13_SourceNumbers.mono : ∀ k, LeO (vesperlaw13_SourceNumbers.f k ) (vesperlaw13_SourceNumbers.f (k + 1) ) := by
  intro  k
  unfold vesperlaw13_SourceNumbers.f
  repeat' first
      | (with_reducible exact vesperlaw13_awake.mono _)
      | (with_reducible exact LeO.refl _)
      | (with_reducible exact LeO.none _)
      | (with_reducible refine LeO.ite ?_ ?_)
      | (with_reducible refine LeO.bind ?_ (fun _ => ?_))
      | exact vesperlaw13_awake.mono _
      | exact LeO.none _
      | refine LeO.ite ?_ ?_
      | refine LeO.bind ?_ (fun _ => ?_)
set_option maxHeartbeats 8000000 in
set_option maxRecDepth 100000 in
theorem vesperlaw13_SourceNumbers.calls (k : Nat)  (r : Bool) (w : World) (h : vesperlaw13_SourceNumbers.f k  = some r) (hG : GOk w := by first | exact HG.out | exact GOk.below HG.out HB.out | exact GOk.below HG.out (by repeat (first | (with_reducible first | exact HB.out | apply below_alloc | apply pw_below_drewN | apply below_drew1 | refine below_set ?_ (Aside0.out (by assumption))) | exact HB.out))) :
    Calls Tryd.prog 3 #[] w fun e w' => e = .returned (.bool r) ∧ Below w.heap.size w w' := by
  have HG := Aside0.mk hG
  clear hG
  have HB := Aside0.mk (Below.refl w.heap.size w)
  have H : ((vesperlaw13_awake.f k).bind fun t204 => (if t204 = true then (some true) else (some false))) = some r := h
  clear h
  replace H := Option.bind_eq_some_iff.mp H
  obtain ⟨t204, A10, H⟩ := H
  replace H : (if t204 = true then (some true) else (some false)) = some r := H
  have A1 := Aside0.mk A10
  clear A10
  by_cases c2 : t204 = true
  · subst c2
    have H1 : (some true) = some r := by rw [if_pos rfl] at H; exact H
    clear H
    have H := H1
    clear H1
    obtain rfl := Option.some.inj H
    go_enter Tryd.func3, Tryd.ntmps3
    go_wp2_with (first | ((with_reducible refine gate_callee (f := 8) rfl ?_); refine goesL_ (some 2) rfl rfl Tryd.func8 (by kernel_rfl) rfl #[] rfl (by (try simp only [List.map_toArray, List.map_cons, List.map_nil]); first | done | rfl | (simp only [List.length_drop, List.length_take]; rfl)) ?_; (with_reducible refine (vesperlaw13_awake.calls k  true _ A1.out).mono ?_); rintro e w3 ⟨rfl, hb⟩; refine ⟨_, rfl, ?_⟩; have n0_ := Aside0.mk (below_step (by repeat (first | (with_reducible first | exact HB.out | apply below_alloc | apply pw_below_drewN | apply below_drew1) | exact HB.out)) hb); clear HB; have HB := n0_; clear n0_; (try clear hb); (try clear hb2); (try clear hk); (try clear hi)))
    go_ret
    exact ⟨by first | rfl | (simp [errW_none, errW_some] <;> rfl) | (simp [*, errW_none, errW_some] <;> rfl), by repeat (first | (with_reducible first | exact HB.out | apply below_alloc | apply pw_below_drewN | apply below_drew1) | exact HB.out)⟩
  · replace c2 := Bool.eq_false_iff.mpr c2
    subst c2
    have H1 : (some false) = some r := by rw [if_neg (show ¬ (false = true) by decide)] at H; exact H
    clear H
    have H := H1
    clear H1
    obtain rfl := Option.some.inj H
    go_enter Tryd.func3, Tryd.ntmps3
    go_wp2_with (first | ((with_reducible refine gate_callee (f := 8) rfl ?_); refine goesL_ (some 2) rfl rfl Tryd.func8 (by kernel_rfl) rfl #[] rfl (by (try simp only [List.map_toArray, List.map_cons, List.map_nil]); first | done | rfl | (simp only [List.length_drop, List.length_take]; rfl)) ?_; (with_reducible refine (vesperlaw13_awake.calls k  false _ A1.out).mono ?_); rintro e w4 ⟨rfl, hb⟩; refine ⟨_, rfl, ?_⟩; have n0_ := Aside0.mk (below_step (by repeat (first | (with_reducible first | exact HB.out | apply below_alloc | apply pw_below_drewN | apply below_drew1) | exact HB.out)) hb); clear HB; have HB := n0_; clear n0_; (try clear hb); (try clear hb2); (try clear hk); (try clear hi)))
    go_ret
    exact ⟨by first | rfl | (simp [errW_none, errW_some] <;> rfl) | (simp [*, errW_none, errW_some] <;> rfl), by repeat (first | (with_reducible first | exact HB.out | apply below_alloc | apply pw_below_drewN | apply below_drew1) | exact HB.out)⟩

end Go.Proofs.YtjedbamcjgabpaaDoor.PSo
