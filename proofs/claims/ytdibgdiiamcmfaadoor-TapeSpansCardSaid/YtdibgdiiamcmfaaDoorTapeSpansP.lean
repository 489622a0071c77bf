/- The plain law of TapeSpans: the program's spans of waves are the document's answer's. -/
import Derived.Test.YtdibgdiiamcmfaaDoorTapeSpansR
import Derived.Test.YtdibgdiiamcmfaaDoorPTapex11
set_option linter.unusedVariables false
set_option linter.unusedSimpArgs false
namespace Go.Proofs.YtdibgdiiamcmfaaDoor.SpansP
open Go Go.RowKit
open Go.Proofs.YtdibgdiiamcmfaaDoorW.PrintWords Go.Proofs.YtdibgdiiamcmfaaDoor.PTape

theorem cyc_eq (l : List S44) (hl : l.length ≤ 4096) : ∀ (d i : Nat) (n : Int) (k k2 : Nat), l.length = i + d → d < k → d < k2 →
    ∃ r, script_Cycles.l0 k n l (l.length : Int) (i : Int) = some r ∧ vesperref07_Check.l0 k2 l n (i : Int) = some r.2 := by
  intro d
  induction d with
  | zero =>
    intro i n k k2 h hk hk2
    obtain ⟨k, rfl⟩ : ∃ m, k = m + 1 := ⟨k - 1, by omega⟩
    obtain ⟨k2, rfl⟩ : ∃ m, k2 = m + 1 := ⟨k2 - 1, by omega⟩
    rw [script_Cycles.l0, if_neg (show ¬ ((i : Int) < (l.length : Int)) by omega), vesperref07_Check.l0, if_neg (show ¬ ((i : Int) < (l.length : Int)) by omega)]
    by_cases c : n > 4194304
    · rw [if_pos c, if_pos c]; exact ⟨_, rfl, rfl⟩
    · rw [if_neg c, if_neg c]; exact ⟨_, rfl, rfl⟩
  | succ d ih =>
    intro i n k k2 h hk hk2
    obtain ⟨k, rfl⟩ : ∃ m, k = m + 1 := ⟨k - 1, by omega⟩
    obtain ⟨k2, rfl⟩ : ∃ m, k2 = m + 1 := ⟨k2 - 1, by omega⟩
    rw [script_Cycles.l0, if_pos (show (i : Int) < (l.length : Int) by omega), if_pos (show (0 : Int) ≤ (i : Int) by omega), if_pos (show (i : Int) < (l.length : Int) by omega), vesperref07_Check.l0, if_pos (show (i : Int) < (l.length : Int) by omega), if_pos (show (0 : Int) ≤ (i : Int) by omega)]
    by_cases c1 : (rd_T44 l (i : Int)).f0 < 1
    · rw [if_pos c1, if_pos c1]; exact ⟨_, rfl, rfl⟩
    rw [if_neg c1, if_neg c1]
    by_cases c2 : (rd_T44 l (i : Int)).f0 > 1048576
    · rw [if_pos c2, if_pos c2]; exact ⟨_, rfl, rfl⟩
    rw [if_neg c2, if_neg c2]
    rw [show wrap64 ((i : Int) + 1) = ((i + 1 : Nat) : Int) by unfold wrap64; omega]
    exact ih (i + 1) (wrap64 (n + (rd_T44 l (i : Int)).f0)) k k2 (by omega) (by omega) (by omega)

theorem check_eq (l : List S44) (k k2 : Nat) (hk : 5000 ≤ k) (hk2 : 5000 ≤ k2) : ∃ e, script_Check.f k l = some e ∧ vesperref07_Check.f k2 l = some e := by
  unfold script_Check.f script_Cycles.f vesperref07_Check.f
  by_cases c : (l.length : Int) > 4096
  · rw [if_pos c, if_pos c]; exact ⟨2, rfl, rfl⟩
  · rw [if_neg c, if_neg c]
    obtain ⟨r, h1, h2⟩ := cyc_eq l (by omega) l.length 0 0 k k2 (by omega) (by omega) (by omega)
    simp only [Int.natCast_zero] at h1 h2
    rw [h1, h2]
    exact ⟨r.2, rfl, rfl⟩

section
variable (a0 a1 : Int) (a2 a3 a4 a5 a6 a7 a8 : Bool) (a9 : Int)

theorem l1_same (L : List S37) (hL : L.length ≤ 2048) : ∀ (d i k k2 : Nat) (b0 : Int) (b2 : Bool) (acc : List S44), L.length = i + d → acc.length ≤ 2 * i → d + 6000 < k → d + 6000 < k2 →
    ∃ r : List S44 × Int, tape_Spans.l1 k acc L (L.length : Int) (i : Int) b0 a1 b2 a3 a4 a5 a6 a7 a8 a9 = some r ∧ vesperref12_Spans.l1 k2 L acc (i : Int) a0 a1 a2 a3 a4 a5 a6 a7 a8 a9 = some r ∧ r.1.length ≤ 4096 := by
  intro d
  induction d with
  | zero =>
    intro i k k2 b0 b2 acc h ha hk hk2
    obtain ⟨k, rfl⟩ : ∃ m, k = m + 1 := ⟨k - 1, by omega⟩
    obtain ⟨k2, rfl⟩ : ∃ m, k2 = m + 1 := ⟨k2 - 1, by omega⟩
    rw [tape_Spans.l1, if_neg (show ¬ ((i : Int) < (L.length : Int)) by omega), vesperref12_Spans.l1, if_neg (show ¬ ((i : Int) < (L.length : Int)) by omega)]
    obtain ⟨e, h1, h2⟩ := check_eq acc k k2 (by omega) (by omega)
    rw [h1, h2]
    simp only [Option.bind_some]
    by_cases c : e = 0
    · rw [if_pos c]; exact ⟨_, rfl, rfl, by simp only; omega⟩
    · rw [if_neg c]; exact ⟨_, rfl, rfl, by simp⟩
  | succ d ih =>
    intro i k k2 b0 b2 acc h ha hk hk2
    obtain ⟨k, rfl⟩ : ∃ m, k = m + 1 := ⟨k - 1, by omega⟩
    obtain ⟨k2, rfl⟩ : ∃ m, k2 = m + 1 := ⟨k2 - 1, by omega⟩
    have hi : (i : Int) < (L.length : Int) := by omega
    have h0 : (0 : Int) ≤ (i : Int) := by omega
    rw [tape_Spans.l1, if_pos hi, if_pos h0, if_pos hi, if_pos (show acc.length < 5864062014805 by omega), Option.bind_some, if_pos (by simp; omega)]
    rw [vesperref12_Spans.l1, if_pos hi, if_pos h0, Option.bind_some, if_pos (show acc.length + _ < 5864062014805 by simp; omega)]
    rw [show wrap64 ((i : Int) + 1) = ((i + 1 : Nat) : Int) by unfold wrap64; omega, List.append_assoc]
    exact ih (i + 1) k k2 _ _ _ (by omega) (by simp; omega) (by omega) (by omega)

theorem l0_same (L : List S37) (hL : L.length ≤ 100000000000) : ∀ (d i k k2 : Nat), L.length = i + d → d + 10000 < k → d + 10000 < k2 →
    ∃ r : List S44 × Int, tape_Spans.l0 k L L (L.length : Int) (i : Int) a0 a1 a2 a3 a4 a5 a6 a7 a8 a9 = some r ∧ vesperref12_Spans.l0 k2 L (i : Int) a0 a1 a2 a3 a4 a5 a6 a7 a8 a9 = some r ∧ r.1.length ≤ 4096 := by
  intro d
  induction d with
  | zero =>
    intro i k k2 h hk hk2
    obtain ⟨k, rfl⟩ : ∃ m, k = m + 1 := ⟨k - 1, by omega⟩
    obtain ⟨k2, rfl⟩ : ∃ m, k2 = m + 1 := ⟨k2 - 1, by omega⟩
    rw [tape_Spans.l0, if_neg (show ¬ ((i : Int) < (L.length : Int)) by omega), vesperref12_Spans.l0, if_neg (show ¬ ((i : Int) < (L.length : Int)) by omega)]
    by_cases c : L.length > 2048
    · rw [if_pos (show wrap64 (2 * (L.length : Int)) > 4096 by unfold wrap64; omega), if_pos (show (L.length : Int) > 2048 by omega)]; exact ⟨_, rfl, rfl, by simp⟩
    · rw [if_neg (show ¬ (wrap64 (2 * (L.length : Int)) > 4096) by unfold wrap64; omega), if_neg (show ¬ ((L.length : Int) > 2048) by omega)]
      exact l1_same a0 a1 a2 a3 a4 a5 a6 a7 a8 a9 L (by omega) L.length 0 k k2 a0 a2 [] (by omega) (by simp) (by omega) (by omega)
  | succ d ih =>
    intro i k k2 h hk hk2
    obtain ⟨k, rfl⟩ : ∃ m, k = m + 1 := ⟨k - 1, by omega⟩
    obtain ⟨k2, rfl⟩ : ∃ m, k2 = m + 1 := ⟨k2 - 1, by omega⟩
    have hi : (i : Int) < (L.length : Int) := by omega
    have h0 : (0 : Int) ≤ (i : Int) := by omega
    rw [tape_Spans.l0, if_pos hi, if_pos h0, if_pos hi, vesperref12_Spans.l0, if_pos hi, if_pos h0]
    by_cases c1 : (rd_T37 L (i : Int)).f0 < 1
    · rw [if_pos c1, if_pos c1]; exact ⟨_, rfl, rfl, by simp⟩
    rw [if_neg c1, if_neg c1]
    by_cases c2 : (rd_T37 L (i : Int)).f0 > 1048576
    · rw [if_pos c2, if_pos c2]; exact ⟨_, rfl, rfl, by simp⟩
    rw [if_neg c2, if_neg c2]
    by_cases c3 : (rd_T37 L (i : Int)).f1 < 1
    · rw [if_pos c3, if_pos c3]; exact ⟨_, rfl, rfl, by simp⟩
    rw [if_neg c3, if_neg c3]
    by_cases c4 : (rd_T37 L (i : Int)).f1 > 1048576
    · rw [if_pos c4, if_pos c4]; exact ⟨_, rfl, rfl, by simp⟩
    rw [if_neg c4, if_neg c4, show wrap64 ((i : Int) + 1) = ((i + 1 : Nat) : Int) by unfold wrap64; omega]
    exact ih (i + 1) k k2 (by omega) (by omega) (by omega)

theorem spans_same (L : List S37) (hL : L.length ≤ 100000000000) : ∃ r : List S44 × Int, tape_Spans.f (L.length + 20000) L a0 a1 a2 a3 a4 a5 a6 a7 a8 a9 = some r ∧ vesperref12_Spans.f (L.length + 20000) L a0 a1 a2 a3 a4 a5 a6 a7 a8 a9 = some r ∧ r.1.length ≤ 4096 :=
  l0_same a0 a1 a2 a3 a4 a5 a6 a7 a8 a9 L hL L.length 0 _ _ (by omega) (by omega) (by omega)
end

theorem same44 (l : List S44) (hl : l.length ≤ 1000000000000) : vesperref07_Same.f (l.length + 1) l l = some true := by
  unfold vesperref07_Same.f
  rw [if_pos rfl]
  have key : ∀ (d i : Nat), l.length = i + d → vesperref07_Same.l0 (d + 1) l l (i : Int) = some true := by
    intro d
    induction d with
    | zero => intro i h; rw [vesperref07_Same.l0, if_neg (by omega)]
    | succ d ih =>
      intro i h
      rw [vesperref07_Same.l0, if_pos (by omega), if_pos (by omega), if_pos (by omega), if_neg (by simp)]
      rw [show wrap64 ((i : Int) + 1) = ((i + 1 : Nat) : Int) by unfold wrap64; omega]
      exact ih (i + 1) (by omega)
  exact key l.length 0 (by omega)
end Go.Proofs.YtdibgdiiamcmfaaDoor.SpansP
