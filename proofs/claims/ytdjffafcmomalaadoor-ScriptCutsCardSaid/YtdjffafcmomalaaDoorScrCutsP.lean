/- vesperref07.Cut: what it tells, plain: what Cut tells. -/
import Derived.Test.YtdjffafcmomalaaDoorScrCutP
import Derived.Test.YtdjffafcmomalaaDoorPScrxR
set_option linter.unusedVariables false
set_option linter.unusedSimpArgs false
namespace Go.Proofs.YtdjffafcmomalaaDoor.Scr
open Go Go.RowKit
open Go.Proofs.YtdjffafcmomalaaDoorW.PrintWords Go.Proofs.YtdjffafcmomalaaDoor.PScr

theorem rcut_l0 (L : List S34) (hl : L.length ≤ 4096) : ∀ (d p a b : List S34) (n : Int) (k : Nat), L = p ++ d → d.all okC = true → 0 ≤ n → n ≤ 4294967296 → a.length ≤ p.length → b.length ≤ p.length → d.length < k →
    vesperref07_Cut.l0 k L n a b (p.length : Int) = some (a ++ (cutA d n).1, b ++ (cutA d n).2, 0) := by
  intro d
  induction d with
  | nil =>
    intro p a b n k hL hd h0 h1 ha hb hk
    obtain ⟨k, rfl⟩ : ∃ m, k = m + 1 := ⟨k - 1, by simp at hk; omega⟩
    rw [List.append_nil] at hL
    subst hL
    rw [vesperref07_Cut.l0, if_neg (by omega)]
    simp [cutA]
  | cons s d ih =>
    intro p a b n k hL hd h0 h1 ha hb hk
    rw [List.all_cons, Bool.and_eq_true] at hd
    have hs := okC_pos hd.1
    simp only [List.length_cons] at hk
    obtain ⟨k, rfl⟩ : ∃ m, k = m + 1 := ⟨k - 1, by omega⟩
    have hlen : p.length + (d.length + 1) = L.length := by rw [hL]; simp
    have hrd : rd_T34 L (p.length : Int) = s := by rw [hL]; exact rd_at p s d
    have hw : wrap64 ((p.length : Int) + 1) = ((p ++ [s]).length : Int) := by rw [w64 (by omega) (by omega)]; simp
    obtain ⟨f, hf⟩ : ∃ f, min n s.f0 = f := ⟨_, rfl⟩
    have hc : cutA (s :: d) n = ((if f > 0 then [withC s f] else []) ++ (cutA d (n - f)).1, (if f < s.f0 then [withC s (s.f0 - f)] else []) ++ (cutA d (n - f)).2) := by
      rw [← hf]; rfl
    rw [vesperref07_Cut.l0, if_pos (by omega), if_pos (by omega), hrd, mn_eq, hf, hw, hc]
    simp only [Option.bind_some]
    have hr := fun a' b' ha' hb' => ih (p ++ [s]) a' b' (n - f) k (by rw [hL]; simp) hd.2 (by omega) (by omega) ha' hb' (by omega)
    rw [w64 (show -9223372036854775808 ≤ n - f by omega) (by omega), w64 (show -9223372036854775808 ≤ s.f0 - f by omega) (by omega)]
    by_cases c1 : f > 0
    · rw [if_pos c1, if_pos c1, if_pos (by omega)]
      by_cases c2 : f < s.f0
      · rw [if_pos c2, if_pos c2, if_pos (by omega)]
        refine (hr _ _ (by simp; omega) (by simp; omega)).trans ?_
        simp [withC]
      · rw [if_neg c2, if_neg c2]
        refine (hr _ _ (by simp; omega) (by simp; omega)).trans ?_
        simp [withC]
    · rw [if_neg c1, if_neg c1]
      by_cases c2 : f < s.f0
      · rw [if_pos c2, if_pos c2, if_pos (by omega)]
        refine (hr _ _ (by simp; omega) (by simp; omega)).trans ?_
        simp [withC]
      · rw [if_neg c2, if_neg c2]
        refine (hr _ _ (by simp; omega) (by simp; omega)).trans ?_
        simp [withC]
theorem rcut_f (l : List S34) (n : Int) (k : Nat) (hk : 10000 ≤ k) : vesperref07_Cut.f k l n = some (cutR l n) := by
  unfold vesperref07_Cut.f cutR
  rw [rcycles_f k l (by omega), Option.bind_some]
  by_cases c : (cyclesR l).2 = 0
  · obtain ⟨h1, h2, h3, h4⟩ := cyclesR_ok c
    obtain ⟨k, rfl⟩ : ∃ m, k = m + 1 := ⟨k - 1, by omega⟩
    rw [if_pos c, if_pos c]
    by_cases c1 : n < 0
    · rw [if_pos c1, if_pos (.inl c1), vesperref07_Cut.j0, if_pos rfl]
    · rw [if_neg c1]
      by_cases c2 : n > (cyclesR l).1
      · rw [decide_eq_true c2, if_pos (.inr c2), vesperref07_Cut.j0, if_pos rfl]
      · rw [decide_eq_false c2, if_neg (by omega), vesperref07_Cut.j0, if_neg (by decide)]
        have hn : n ≤ 4294967296 := by rw [h4] at c2; simp only at c2; omega
        exact rcut_l0 l h1 l [] [] [] n k rfl h2 (by omega) hn (Nat.le_refl _) (Nat.le_refl _) (by omega)
  · rw [if_neg c, if_neg c]
theorem cutR_len (l : List S34) (n : Int) : (cutR l n).1.length ≤ 4096 ∧ (cutR l n).2.1.length ≤ 4096 := by
  unfold cutR
  by_cases c : (cyclesR l).2 = 0
  · rw [if_pos c]
    obtain ⟨h1, h2, h3, h4⟩ := cyclesR_ok c
    split
    · exact ⟨by simp, by simp⟩
    · rename_i hn
      rw [h4] at hn
      simp only at hn
      obtain ⟨_, _, _, _, g5, g6⟩ := cutA_all l n h2 (by omega) (by omega)
      exact ⟨by show (cutA l n).1.length ≤ _; omega, by show (cutA l n).2.length ≤ _; omega⟩
  · rw [if_neg c]; exact ⟨by simp, by simp⟩
end Go.Proofs.YtdjffafcmomalaaDoor.Scr
