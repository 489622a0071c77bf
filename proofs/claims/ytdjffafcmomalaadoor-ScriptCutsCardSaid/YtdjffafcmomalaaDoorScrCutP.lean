/- Cut, of the program and of the document's answer: what it tells, plain; the two scripts go through the cycles. -/
import Derived.Test.YtdjffafcmomalaaDoorScrCyc
import Derived.Test.YtdjffafcmomalaaDoorPScrx12
set_option linter.unusedVariables false
set_option linter.unusedSimpArgs false
namespace Go.Proofs.YtdjffafcmomalaaDoor.Scr
open Go Go.RowKit
open Go.Proofs.YtdjffafcmomalaaDoorW.PrintWords Go.Proofs.YtdjffafcmomalaaDoor.PScr

def cutA : List S34 → Int → List S34 × List S34
  | [], _ => ([], [])
  | s :: l, n => ((if min n s.f0 > 0 then [withC s (min n s.f0)] else []) ++ (cutA l (n - min n s.f0)).1, (if min n s.f0 < s.f0 then [withC s (s.f0 - min n s.f0)] else []) ++ (cutA l (n - min n s.f0)).2)
def cutR (l : List S34) (n : Int) : List S34 × List S34 × Int := if (cyclesR l).2 = 0 then (if n < 0 ∨ n > (cyclesR l).1 then ([], [], 1) else ((cutA l n).1, (cutA l n).2, 0)) else ([], [], (cyclesR l).2)

theorem cut_l0 (L : List S34) (hl : L.length ≤ 4096) : ∀ (d p a b : List S34) (n : Int) (k : Nat), L = p ++ d → d.all okC = true → 0 ≤ n → n ≤ 4294967296 → a.length ≤ p.length → b.length ≤ p.length → d.length < k →
    script_Cut.l0 k n a b L (L.length : Int) (p.length : Int) = some (a ++ (cutA d n).1, b ++ (cutA d n).2, 0) := by
  intro d
  induction d with
  | nil =>
    intro p a b n k hL hd h0 h1 ha hb hk
    obtain ⟨k, rfl⟩ : ∃ m, k = m + 1 := ⟨k - 1, by simp at hk; omega⟩
    rw [List.append_nil] at hL
    subst hL
    rw [script_Cut.l0, if_neg (by omega)]
    simp [cutA]
  | cons s d ih =>
    intro p a b n k hL hd h0 h1 ha hb hk
    rw [List.all_cons, Bool.and_eq_true] at hd
    have hs := okC_pos hd.1
    simp only [List.length_cons] at hk
    obtain ⟨k, rfl⟩ : ∃ m, k = m + 1 := ⟨k - 1, by omega⟩
    have hlen : p.length + (d.length + 1) = L.length := by rw [hL]; simp
    have hrd : rd_T34 L (p.length : Int) = s := by rw [hL]; exact rd_at p s d
    have hw : wrap64 ((p.length : Int) + 1) = ((p ++ [s]).length : Int) := by rw [w64 (by omega) (by omega)]; simp
    obtain ⟨f, hf⟩ : ∃ f, min n s.f0 = f := ⟨_, rfl⟩
    have hc : cutA (s :: d) n = ((if f > 0 then [withC s f] else []) ++ (cutA d (n - f)).1, (if f < s.f0 then [withC s (s.f0 - f)] else []) ++ (cutA d (n - f)).2) := by
      rw [← hf]; rfl
    rw [script_Cut.l0, if_pos (by omega), if_pos (by omega), if_pos (by omega), hrd, mn_eq, hf, hw, hc]
    unfold script_with.f
    simp only [Option.bind_some]
    have hr := fun a' b' ha' hb' => ih (p ++ [s]) a' b' (n - f) k (by rw [hL]; simp) hd.2 (by omega) (by omega) ha' hb' (by omega)
    rw [w64 (show -9223372036854775808 ≤ n - f by omega) (by omega), w64 (show -9223372036854775808 ≤ s.f0 - f by omega) (by omega)]
    by_cases c1 : f > 0
    · rw [if_pos c1, if_pos c1, if_pos (by omega)]
      by_cases c2 : f < s.f0
      · rw [if_pos c2, if_pos c2, if_pos (by omega)]
        refine (hr _ _ (by simp; omega) (by simp; omega)).trans ?_
        simp [withC]
      · rw [if_neg c2, if_neg c2]
        refine (hr _ _ (by simp; omega) (by simp; omega)).trans ?_
        simp [withC]
    · rw [if_neg c1, if_neg c1]
      by_cases c2 : f < s.f0
      · rw [if_pos c2, if_pos c2, if_pos (by omega)]
        refine (hr _ _ (by simp; omega) (by simp; omega)).trans ?_
        simp [withC]
      · rw [if_neg c2, if_neg c2]
        refine (hr _ _ (by simp; omega) (by simp; omega)).trans ?_
        simp [withC]
theorem cut_f (l : List S34) (n : Int) (k : Nat) (hk : 10000 ≤ k) : script_Cut.f k l n = some (cutR l n) := by
  unfold script_Cut.f cutR
  rw [cycles_f k l (by omega), Option.bind_some]
  by_cases c : (cyclesR l).2 = 0
  · obtain ⟨h1, h2, h3, h4⟩ := cyclesR_ok c
    obtain ⟨k, rfl⟩ : ∃ m, k = m + 1 := ⟨k - 1, by omega⟩
    rw [if_pos c, if_pos c]
    by_cases c1 : n < 0
    · rw [if_pos c1, if_pos (.inl c1), script_Cut.j0, if_pos rfl]
    · rw [if_neg c1]
      by_cases c2 : n > (cyclesR l).1
      · rw [decide_eq_true c2, if_pos (.inr c2), script_Cut.j0, if_pos rfl]
      · rw [decide_eq_false c2, if_neg (by omega), script_Cut.j0, if_neg (by decide)]
        have hn : n ≤ 4294967296 := by rw [h4] at c2; simp only at c2; omega
        exact cut_l0 l h1 l [] [] [] n k rfl h2 (by omega) hn (Nat.le_refl _) (Nat.le_refl _) (by omega)
  · rw [if_neg c, if_neg c]

/-! ### What the two scripts are -/
theorem cutA_zero : ∀ (l : List S34), l.all okC = true → cutA l 0 = ([], l)
  | [], _ => rfl
  | s :: l, h => by
    rw [List.all_cons, Bool.and_eq_true] at h
    have hs := okC_pos h.1
    have e : min 0 s.f0 = 0 := by omega
    rw [cutA, e]
    simp only [Int.sub_zero]
    rw [cutA_zero l h.2, if_neg (by decide), if_pos (by omega), withC_same]
    rfl
theorem cutA_all : ∀ (l : List S34) (n : Int), l.all okC = true → 0 ≤ n → n ≤ sumC l → (cutA l n).1.all okC = true ∧ (cutA l n).2.all okC = true ∧ sumC (cutA l n).1 = n ∧ cyc ((cutA l n).1 ++ (cutA l n).2) = cyc l ∧ (cutA l n).1.length ≤ l.length ∧ (cutA l n).2.length ≤ l.length
  | [], n, _, h0, h1 => by
    rw [sumC_nil] at h1
    exact ⟨rfl, rfl, by show (0 : Int) = n; omega, rfl, Nat.le_refl _, Nat.le_refl _⟩
  | s :: l, n, h, h0, h1 => by
    have ha := h
    rw [List.all_cons, Bool.and_eq_true] at h
    have hs := okC_pos h.1
    rw [sumC_cons] at h1
    by_cases c : s.f0 ≤ n
    · have e : min n s.f0 = s.f0 := by omega
      obtain ⟨g1, g2, g3, g4, g5, g6⟩ := cutA_all l (n - s.f0) h.2 (by omega) (by omega)
      have hc : cutA (s :: l) n = (s :: (cutA l (n - s.f0)).1, (cutA l (n - s.f0)).2) := by
        rw [cutA, e, if_pos (by omega), if_neg (by omega), withC_same]; rfl
      rw [hc]
      refine ⟨?_, g2, ?_, ?_, by simp; omega, by simp; omega⟩
      · simp only [List.all_cons, h.1, g1, Bool.and_self]
      · simp only [sumC_cons, g3]; omega
      · simp only [List.cons_append]
        rw [cyc, cyc, g4]
    · have e : min n s.f0 = n := by omega
      have hc : cutA (s :: l) n = ((if n > 0 then [withC s n] else []), withC s (s.f0 - n) :: l) := by
        rw [cutA, e, Int.sub_self, cutA_zero l h.2, if_pos (show n < s.f0 by omega)]
        simp
      have o2 : okC (withC s (s.f0 - n)) = true := okC_yes (by show ¬ s.f0 - n < 1; omega) (by show ¬ s.f0 - n > 1048576; omega)
      have h2 : (withC s (s.f0 - n) :: l).all okC = true := by rw [List.all_cons, o2, h.2]; rfl
      rw [hc]
      by_cases c2 : n > 0
      · have o1 : okC (withC s n) = true := okC_yes (by show ¬ n < 1; omega) (by show ¬ n > 1048576; omega)
        simp only [if_pos c2]
        refine ⟨by rw [List.all_cons, o1]; rfl, h2, ?_, ?_, by simp, by simp⟩
        · show n + 0 = n; omega
        · have h3 := cyc_two s n (s.f0 - n) (by omega) (by omega)
          rw [show n + (s.f0 - n) = s.f0 by omega, withC_same] at h3
          have e1 : [withC s n] ++ withC s (s.f0 - n) :: l = [withC s n, withC s (s.f0 - n)] ++ l := rfl
          rw [e1, cyc_append, h3, ← cyc_append]; rfl
      · simp only [if_neg c2]
        have : n = 0 := by omega
        subst this
        refine ⟨rfl, h2, rfl, ?_, by simp, by simp⟩
        rw [List.nil_append, Int.sub_zero, withC_same]
end Go.Proofs.YtdjffafcmomalaaDoor.Scr
