/- vesperref07.Line by hand (the printed walk was not taken). Condition: a span that may be. -/
import Derived.Test.YtdjffafcmomalaaDoorScrM4
import Derived.Test.YtdjffafcmomalaaDoorScrM1
import Derived.Test.YtdjffafcmomalaaDoorScrM3
import Derived.Test.YtdjffafcmomalaaDoorPScrx0
import Derived.Test.YtdjffafcmomalaaDoorPScrx4
namespace Go.Proofs.YtdjffafcmomalaaDoor.PScr
open Go.RowKit Go.Proofs.YtdjffafcmomalaaDoorW.PrintWords Go.Proofs.YtdjffafcmomalaaDoorW.PrintLast Go.Proofs.YtdjffafcmomalaaDoorW.PrintMore
open Go.Proofs.YtdjffafcmomalaaDoor.Scr (GOk)
attribute [local go_sem] max2_int min2_int max_two min_two max_three min_three max_four min_four   -- for this text's walks alone
set_option linter.unusedVariables false
set_option linter.unusedSimpArgs false

/-! ### vesperref07_Line: function 39 -/
def vesperref07_Line.f (k : Nat) (a0_0 : Int) (a0_1 : Int) (a0_2 : Bool) (a0_3 : Bool) (a0_4 : Bool) (a0_5 : Bool) (a0_6 : Bool) (a0_7 : Bool) (a0_8 : Bool) (a0_9 : Int) : Option (ByteArray) := if Scr.okS (⟨a0_0, a0_1, a0_2, a0_3, a0_4, a0_5, a0_6, a0_7, a0_8, a0_9⟩ : S34) = true then some (Scr.lineB (⟨a0_0, a0_1, a0_2, a0_3, a0_4, a0_5, a0_6, a0_7, a0_8, a0_9⟩ : S34)) else none
theorem vesperref07_Line.mono : ∀ a0 a1 a2 a3 a4 a5 a6 a7 a8 a9 k, LeO (vesperref07_Line.f k a0 a1 a2 a3 a4 a5 a6 a7 a8 a9) (vesperref07_Line.f (k + 1) a0 a1 a2 a3 a4 a5 a6 a7 a8 a9) := fun _ _ _ _ _ _ _ _ _ _ _ => LeO.refl _
theorem vesperref07_Line.calls (k : Nat) (a0_0 : Int) (a0_1 : Int) (a0_2 : Bool) (a0_3 : Bool) (a0_4 : Bool) (a0_5 : Bool) (a0_6 : Bool) (a0_7 : Bool) (a0_8 : Bool) (a0_9 : Int) (r : ByteArray) (w : World) (h : vesperref07_Line.f k a0_0 a0_1 a0_2 a0_3 a0_4 a0_5 a0_6 a0_7 a0_8 a0_9 = some r) (hG : GOk w := by first | exact HG.out | exact GOk.below HG.out HB.out | exact GOk.below HG.out (by repeat (first | (with_reducible first | exact HB.out | apply below_alloc | apply pw_below_drewN | apply below_drew1) | exact HB.out))) :
    Calls Tryd.prog 39 #[.agg #[.int .i64 a0_0, .int .u16 a0_1, .bool a0_2, .bool a0_3, .bool a0_4, .bool a0_5, .bool a0_6, .bool a0_7, .bool a0_8, .int .u8 a0_9]] w fun e w' => e = .returned (.string r) ∧ Below w.heap.size w w' := by
  unfold vesperref07_Line.f at h
  by_cases ho : Scr.okS (⟨a0_0, a0_1, a0_2, a0_3, a0_4, a0_5, a0_6, a0_7, a0_8, a0_9⟩ : S34) = true
  · rw [if_pos ho, Option.some.injEq] at h
    subst h
    simp only [Scr.okS, Bool.and_eq_true, decide_eq_true_eq] at ho
    obtain ⟨⟨⟨⟨⟨h0, h1⟩, h2⟩, h3⟩, h4⟩, h5⟩ := ho
    exact Scr.refLine_calls (⟨a0_0, a0_1, a0_2, a0_3, a0_4, a0_5, a0_6, a0_7, a0_8, a0_9⟩ : S34) w h0 h1 h2 h3 h4 h5 hG
  · rw [if_neg ho] at h; cases h
end Go.Proofs.YtdjffafcmomalaaDoor.PScr
