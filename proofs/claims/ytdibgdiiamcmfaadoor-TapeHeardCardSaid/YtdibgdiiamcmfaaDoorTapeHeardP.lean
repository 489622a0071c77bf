/- The plain law of TapeHeard: what the program hears of spans is what the document's answer hears. -/
import Derived.Test.YtdibgdiiamcmfaaDoorPTapex8
import Derived.Test.YtdibgdiiamcmfaaDoorPTapex9
import Derived.Test.YtdibgdiiamcmfaaDoorPTapex10
set_option linter.unusedVariables false
set_option linter.unusedSimpArgs false
namespace Go.Proofs.YtdibgdiiamcmfaaDoor.HeardP
open Go Go.RowKit
open Go.Proofs.YtdibgdiiamcmfaaDoorW.PrintWords Go.Proofs.YtdibgdiiamcmfaaDoor.PTape

theorem cyc_eq (l : List S44) (hl : l.length ≤ 4096) : ∀ (d i : Nat) (n : Int) (k k2 : Nat), l.length = i + d → d < k → d < k2 →
    ∃ r, script_Cycles.l0 k n l (l.length : Int) (i : Int) = some r ∧ vesperref07_Check.l0 k2 l n (i : Int) = some r.2 ∧ (r.2 = 0 → ∀ j, i ≤ j → j < l.length → 1 ≤ (rd_T44 l (j : Int)).f0 ∧ (rd_T44 l (j : Int)).f0 ≤ 1048576) := by
  intro d
  induction d with
  | zero =>
    intro i n k k2 h hk hk2
    obtain ⟨k, rfl⟩ : ∃ m, k = m + 1 := ⟨k - 1, by omega⟩
    obtain ⟨k2, rfl⟩ : ∃ m, k2 = m + 1 := ⟨k2 - 1, by omega⟩
    rw [script_Cycles.l0, if_neg (show ¬ ((i : Int) < (l.length : Int)) by omega), vesperref07_Check.l0, if_neg (show ¬ ((i : Int) < (l.length : Int)) by omega)]
    by_cases c : n > 4194304
    · rw [if_pos c, if_pos c]; exact ⟨_, rfl, rfl, fun _ j h1 h2 => by omega⟩
    · rw [if_neg c, if_neg c]; exact ⟨_, rfl, rfl, fun _ j h1 h2 => by omega⟩
  | succ d ih =>
    intro i n k k2 h hk hk2
    obtain ⟨k, rfl⟩ : ∃ m, k = m + 1 := ⟨k - 1, by omega⟩
    obtain ⟨k2, rfl⟩ : ∃ m, k2 = m + 1 := ⟨k2 - 1, by omega⟩
    rw [script_Cycles.l0, if_pos (show (i : Int) < (l.length : Int) by omega), if_pos (show (0 : Int) ≤ (i : Int) by omega), if_pos (show (i : Int) < (l.length : Int) by omega), vesperref07_Check.l0, if_pos (show (i : Int) < (l.length : Int) by omega), if_pos (show (0 : Int) ≤ (i : Int) by omega)]
    by_cases c1 : (rd_T44 l (i : Int)).f0 < 1
    · rw [if_pos c1, if_pos c1]; exact ⟨_, rfl, rfl, fun h => by cases h⟩
    rw [if_neg c1, if_neg c1]
    by_cases c2 : (rd_T44 l (i : Int)).f0 > 1048576
    · rw [if_pos c2, if_pos c2]; exact ⟨_, rfl, rfl, fun h => by cases h⟩
    rw [if_neg c2, if_neg c2]
    rw [show wrap64 ((i : Int) + 1) = ((i + 1 : Nat) : Int) by unfold wrap64; omega]
    obtain ⟨r, h1, h2, h3⟩ := ih (i + 1) (wrap64 (n + (rd_T44 l (i : Int)).f0)) k k2 (by omega) (by omega) (by omega)
    refine ⟨r, h1, h2, fun e j hj1 hj2 => ?_⟩
    by_cases hij : j = i
    · subst hij; omega
    · exact h3 e j (by omega) hj2

theorem check_eq (l : List S44) (k k2 : Nat) (hk : 5000 ≤ k) (hk2 : 5000 ≤ k2) : ∃ e, script_Check.f k l = some e ∧ vesperref07_Check.f k2 l = some e ∧ (e = 0 → l.length ≤ 4096 ∧ ∀ j, j < l.length → 1 ≤ (rd_T44 l (j : Int)).f0 ∧ (rd_T44 l (j : Int)).f0 ≤ 1048576) := by
  unfold script_Check.f script_Cycles.f vesperref07_Check.f
  by_cases c : (l.length : Int) > 4096
  · rw [if_pos c, if_pos c]; exact ⟨2, rfl, rfl, fun h => by cases h⟩
  · rw [if_neg c, if_neg c]
    obtain ⟨r, h1, h2, h3⟩ := cyc_eq l (by omega) l.length 0 0 k k2 (by omega) (by omega) (by omega)
    simp only [Int.natCast_zero] at h1 h2
    rw [h1, h2]
    exact ⟨r.2, rfl, rfl, fun e => ⟨by omega, fun j hj => h3 e j (by omega) hj⟩⟩

theorem heard_eq (l : List S44) (hl : l.length ≤ 4096) (hb : ∀ j, j < l.length → 1 ≤ (rd_T44 l (j : Int)).f0 ∧ (rd_T44 l (j : Int)).f0 ≤ 1048576) :
    ∀ (d i : Nat) (x : List S37) (high : Bool) (k k2 : Nat), l.length = i + d → x.length ≤ i → (high = true → 0 < x.length) → (i = 0 → high = false) → (0 < i → high = (rd_T44 l ((i : Int) - 1)).f2) → 3 * d < k → 2 * d < k2 →
    ∃ r : List S37, tape_Heard.l0 k l x l (l.length : Int) (i : Int) = some (r, 0) ∧ vesperref12_Heard.l0 k2 l x high (i : Int) = some (r, 0) ∧ r.length ≤ l.length := by
  intro d
  induction d with
  | zero =>
    intro i x high k k2 h hx _ _ _ hk hk2
    obtain ⟨k, rfl⟩ : ∃ m, k = m + 1 := ⟨k - 1, by omega⟩
    obtain ⟨k2, rfl⟩ : ∃ m, k2 = m + 1 := ⟨k2 - 1, by omega⟩
    rw [tape_Heard.l0, vesperref12_Heard.l0, if_neg (by omega), if_neg (by omega)]
    exact ⟨x, rfl, rfl, by omega⟩
  | succ d ih =>
    intro i x high k k2 h hx hhx hi0 hi1 hk hk2
    obtain ⟨k, rfl⟩ : ∃ m, k = m + 3 := ⟨k - 3, by omega⟩
    obtain ⟨k2, rfl⟩ : ∃ m, k2 = m + 2 := ⟨k2 - 2, by omega⟩
    obtain ⟨b1, b2⟩ := hb i (by omega)
    have w1 : wrap64 ((i : Int) + 1) = ((i + 1 : Nat) : Int) := by unfold wrap64; omega
    have wx : ∀ n : Nat, n ≤ 4097 → wrap64 ((n : Int) - 1) = (n : Int) - 1 := fun n hn => by unfold wrap64; omega
    have back : (((i + 1 : Nat) : Int) - 1) = (i : Int) := by omega
    rw [tape_Heard.l0, if_pos (show (i : Int) < (l.length : Int) by omega), if_pos (show (0 : Int) ≤ (i : Int) by omega), if_pos (show (i : Int) < (l.length : Int) by omega), vesperref12_Heard.l0, if_pos (show (i : Int) < (l.length : Int) by omega), if_pos (show (0 : Int) ≤ (i : Int) by omega)]
    by_cases c : (rd_T44 l (i : Int)).f2 = true
    · rw [if_pos c, if_pos c]
      cases high with
      | true =>
        have hx0 := hhx rfl
        have hi : 0 < i := by by_cases e : i = 0; · have := hi0 e; cases this
                              · omega
        have hp := hi1 hi
        rw [if_neg (by omega), show wrap64 ((i : Int) - 1) = (i : Int) - 1 by unfold wrap64; omega, if_pos (by omega), if_pos (by omega), ← hp, tape_Heard.j1, if_neg (by decide), tape_Heard.j2, if_pos c, wx x.length (by omega), if_pos (by omega), if_pos (by omega), w1]
        rw [vesperref12_Heard.j1, if_pos rfl, wx x.length (by omega), if_pos (by omega), if_pos (by omega), if_pos (by omega), if_pos (by omega), w1, c]
        exact ih (i + 1) _ true k k2 (by omega) (by simp; omega) (fun _ => by simp; omega) (by omega) (fun _ => by rw [back, c]) (by omega) (by omega)
      | false =>
        have hj : tape_Heard.l0 k l ((x ++ [(⟨0, 0⟩ : S37)]).set x.length ⟨(rd_T44 l (i : Int)).f0, 0⟩) l (l.length : Int) ((i + 1 : Nat) : Int) = tape_Heard.l0 k l (x ++ [(⟨(rd_T44 l (i : Int)).f0, 0⟩ : S37)]) l (l.length : Int) ((i + 1 : Nat) : Int) := by
          rw [List.set_append_right _ _ (Nat.le_refl _), Nat.sub_self]; rfl
        have hr : rd_T37 (x ++ [(⟨0, 0⟩ : S37)]) (x.length : Int) = ⟨0, 0⟩ := by
          unfold rd_T37
          rw [Int.toNat_natCast, List.getD_eq_getElem?_getD, List.getElem?_append_right (Nat.le_refl _), Nat.sub_self]; rfl
        have first : tape_Heard.j1 (k + 2) l x true l (l.length : Int) (i : Int) (rd_T44 l (i : Int)).f0 (rd_T44 l (i : Int)).f1 (rd_T44 l (i : Int)).f2 (rd_T44 l (i : Int)).f3 (rd_T44 l (i : Int)).f4 (rd_T44 l (i : Int)).f5 (rd_T44 l (i : Int)).f6 (rd_T44 l (i : Int)).f7 (rd_T44 l (i : Int)).f8 (rd_T44 l (i : Int)).f9 = tape_Heard.l0 k l (x ++ [(⟨(rd_T44 l (i : Int)).f0, 0⟩ : S37)]) l (l.length : Int) ((i + 1 : Nat) : Int) := by
          rw [tape_Heard.j1, if_pos rfl, if_pos (by omega), tape_Heard.j2, if_pos c]
          have hlen : (x ++ [(⟨0, 0⟩ : S37)]).length = x.length + 1 := by simp
          rw [hlen, wx (x.length + 1) (by omega)]
          have e1 : (((x.length + 1 : Nat) : Int) - 1) = (x.length : Int) := by omega
          rw [e1, if_pos (by omega), if_pos (by omega), hr, w1]
          rw [show wrap64 ((⟨0, 0⟩ : S37).f0 + (rd_T44 l (i : Int)).f0) = (rd_T44 l (i : Int)).f0 by unfold wrap64; simp only; omega]
          rw [Int.toNat_natCast]
          exact hj
        have second : vesperref12_Heard.j1 (k2 + 1) l x (i : Int) (x.length : Int) false = vesperref12_Heard.l0 k2 l (x ++ [(⟨(rd_T44 l (i : Int)).f0, 0⟩ : S37)]) true ((i + 1 : Nat) : Int) := by
          rw [vesperref12_Heard.j1, if_neg (by decide), if_pos (by omega), if_pos (by omega), if_pos c, if_pos (by omega), w1, c]
        rw [second]
        have goal := ih (i + 1) (x ++ [(⟨(rd_T44 l (i : Int)).f0, 0⟩ : S37)]) true k k2 (by omega) (by simp; omega) (fun _ => by simp) (by omega) (fun _ => by rw [back, c]) (by omega) (by omega)
        by_cases hz : (i : Int) = 0
        · rw [if_pos hz, first]; exact goal
        · have hp := hi1 (by omega)
          rw [if_neg hz, show wrap64 ((i : Int) - 1) = (i : Int) - 1 by unfold wrap64; omega, if_pos (by omega), if_pos (by omega), ← hp]
          rw [show (!false) = true from rfl, first]; exact goal
    · rw [if_neg c, if_neg c]
      have c' : (rd_T44 l (i : Int)).f2 = false := Bool.eq_false_iff.2 c
      rw [tape_Heard.j1, if_neg (show ¬ (false = true) by decide), tape_Heard.j2, if_neg c, vesperref12_Heard.j1, if_neg (show ¬ (false = true) by decide), if_pos (show (0 : Int) ≤ (i : Int) by omega), if_pos (show (i : Int) < (l.length : Int) by omega), if_neg c]
      by_cases h0 : (x.length : Int) > 0
      · rw [if_pos h0, if_pos h0, wx x.length (by omega), if_pos (by omega), if_pos (by omega), if_pos (by omega), if_pos (by omega), w1, c']
        exact ih (i + 1) _ false k k2 (by omega) (by simp; omega) (fun h => by cases h) (by omega) (fun _ => by rw [back, c']) (by omega) (by omega)
      · rw [if_neg h0, if_neg h0, w1, c']
        exact ih (i + 1) x false k k2 (by omega) (by omega) (fun h => by cases h) (by omega) (fun _ => by rw [back, c']) (by omega) (by omega)

theorem heard_same (l : List S44) : ∃ r : List S37 × Int, tape_Heard.f 40000 l = some r ∧ vesperref12_Heard.f 40000 l = some r ∧ r.1.length ≤ 4096 := by
  unfold tape_Heard.f vesperref12_Heard.f
  obtain ⟨e, h1, h2, h3⟩ := check_eq l 40000 40000 (by omega) (by omega)
  rw [h1, h2]
  simp only [Option.bind_some]
  by_cases c : e = 0
  · obtain ⟨hl, hb⟩ := h3 c
    rw [if_pos c, if_pos c]
    obtain ⟨r, q1, q2, q3⟩ := heard_eq l hl hb l.length 0 [] false 40000 40000 (by omega) (by simp) (fun h => by cases h) (fun _ => rfl) (fun h => by omega) (by omega) (by omega)
    exact ⟨_, q1, q2, by simp; omega⟩
  · rw [if_neg c, if_neg c]
    exact ⟨_, rfl, rfl, by simp⟩
end Go.Proofs.YtdibgdiiamcmfaaDoor.HeardP
