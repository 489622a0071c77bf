/- ScriptBack's plain law: what is printed is read as it was, what is read is printed as it was. -/
import Derived.Test.YtdjffafcmomalaaDoorScrBackL
import Derived.Test.YtdjffafcmomalaaDoorPScrx9
set_option linter.unusedVariables false
set_option linter.unusedSimpArgs false
namespace Go.Proofs.YtdjffafcmomalaaDoor.Scr
open Go Go.RowKit
open Go.Proofs.YtdjffafcmomalaaDoorW.PrintWords Go.Proofs.YtdjffafcmomalaaDoor.PScr

theorem awake40 : vesperlaw07_awake.f 5000 = some true := by
  have h : vesperlaw07_awake.f 40 = some true := by decide +kernel
  have step : ∀ d, vesperlaw07_awake.f (40 + d) = some true := by
    intro d
    induction d with
    | zero => exact h
    | succ d ih => exact vesperlaw07_awake.mono (40 + d) _ ih
  exact step 4960
theorem good_of {l : List S34} (hk : l.all okS = true) (hc : l.all okC = true) : ∀ s ∈ l, GoodS s := by
  intro s hs
  have h1 := List.all_eq_true.1 hk s hs
  have h2 := List.all_eq_true.1 hc s hs
  simp only [okC, Bool.and_eq_true, decide_eq_true_eq] at h2
  exact ⟨h1, h2.1, h2.2⟩
theorem good_ok {l : List S34} (h : ∀ s ∈ l, GoodS s) : l.all okS = true ∧ l.all okC = true := by
  refine ⟨List.all_eq_true.2 fun s hs => (h s hs).1, List.all_eq_true.2 fun s hs => ?_⟩
  have := (h s hs).2
  simp only [okC, Bool.and_eq_true, decide_eq_true_eq]; omega
/-- What Print tells, plain. -/
def printR (l : List S34) : ByteArray × Int := if (cyclesR l).2 = 0 then (if (printB l).length > 65536 then (⟨#[]⟩, 2) else (⟨(printB l).toArray⟩, 0)) else (⟨#[]⟩, (cyclesR l).2)
theorem print_f (l : List S34) (hk : l.all okS = true) : script_Print.f l = some (printR l) := by
  unfold script_Print.f printR
  rw [if_pos hk, check_f 5000 l (Nat.le_refl _), Option.bind_some]
  split
  · split <;> rfl
  · rfl
theorem parse_f (t : ByteArray) (ht : t.size ≤ 281474976710656) : script_Parse.f t = some (parseR t.data.toList) := by
  unfold script_Parse.f
  rw [if_pos ht]
theorem back_j0 (t : ByteArray) (ht : t.size ≤ 281474976710656) : vesperlaw07_ScriptBack.j0 5001 t = some true := by
  rw [vesperlaw07_ScriptBack.j0, parse_f t ht, Option.bind_some]
  obtain ⟨m, e, q, hp⟩ : ∃ m e q, parseR t.data.toList = (m, e, q) := ⟨_, _, _, rfl⟩
  rw [hp]
  simp only
  by_cases c : e = 0
  · subst c
    obtain ⟨h0, h1, h2, h3, h4, h5⟩ := parse_ok t.data.toList m q hp
    obtain ⟨k1, k2⟩ := good_ok h1
    have hc := cyclesR_mk h2 k2 h3
    rw [if_pos rfl, print_f m k1, Option.bind_some]
    have hpr : printR m = (t, 0) := by
      unfold printR
      rw [hc, if_pos rfl, h4, if_neg (by omega)]
    rw [hpr]
    simp only
    rw [if_pos trivial, if_pos trivial, if_pos h0, check_f 5000 m (Nat.le_refl _), hc, Option.bind_some, if_pos rfl, awake40]
    rfl
  · obtain ⟨h1, h2⟩ := parse_bad t.data.toList m e q hp c
    subst h1
    rw [if_neg c, if_pos (by rfl), if_pos h2, awake40]
    rfl
theorem back_pure (l : List S34) (hk : l.all okS = true) (t : ByteArray) (ht : t.size ≤ 281474976710656) : vesperlaw07_ScriptBack.f 5001 l t = some true := by
  unfold vesperlaw07_ScriptBack.f
  by_cases c : (l.length : Int) > 2147483647
  · rw [if_pos c]
  rw [if_neg c, print_f l hk, Option.bind_some]
  by_cases c1 : (printR l).2 = 0
  · rw [if_pos c1]
    have hz : (cyclesR l).2 = 0 ∧ (printB l).length ≤ 65536 ∧ printR l = (⟨(printB l).toArray⟩, 0) := by
      unfold printR at c1 ⊢
      by_cases c2 : (cyclesR l).2 = 0
      · rw [if_pos c2] at c1 ⊢
        by_cases c3 : (printB l).length > 65536
        · rw [if_pos c3] at c1; cases c1
        · rw [if_neg c3]; exact ⟨c2, by omega, rfl⟩
      · rw [if_neg c2] at c1; exact (c2 c1).elim
    obtain ⟨h1, h2, h3⟩ := hz
    obtain ⟨g1, g2, g3, _⟩ := cyclesR_ok h1
    have hp := parse_print l (good_of hk g2) g1 g3 h2
    have hs : (⟨(printB l).toArray⟩ : ByteArray).size ≤ 281474976710656 := by
      show (printB l).toArray.size ≤ _
      simp; omega
    rw [h3]
    simp only
    rw [parse_f _ hs, show (⟨(printB l).toArray⟩ : ByteArray).data.toList = printB l from rfl, hp, Option.bind_some]
    simp only
    rw [if_pos trivial, same_self 5001 l (by omega) (by omega), Option.bind_some, if_pos rfl]
    exact back_j0 t ht
  · rw [if_neg c1]
    exact back_j0 t ht
end Go.Proofs.YtdjffafcmomalaaDoor.Scr
