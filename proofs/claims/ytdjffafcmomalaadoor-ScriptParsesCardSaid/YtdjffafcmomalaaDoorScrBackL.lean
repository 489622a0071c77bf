/- A script's text is read as the script, and what is read is printed as the text: plain. Conditions: each lemma's own. -/
import Derived.Test.YtdjffafcmomalaaDoorScrM2
import Derived.Test.YtdjffafcmomalaaDoorScrM3
import Derived.Test.YtdjffafcmomalaaDoorScrM5
set_option linter.unusedVariables false
set_option linter.unusedSimpArgs false
namespace Go.Proofs.YtdjffafcmomalaaDoor.Scr
open Go Go.RowKit
open Go.Proofs.YtdjffafcmomalaaDoorW.PrintWords Go.Proofs.YtdjffafcmomalaaDoor.PScr

/-- The spans are of their kinds, and of 1 to 1048576 cycles. -/
def GoodS (s : S34) : Prop := okS s = true ∧ 1 ≤ s.f0 ∧ s.f0 ≤ 1048576
theorem line1_here : ∀ (a b : List UInt8), (∀ x ∈ a, x ≠ 10) → line1L (a ++ 10 :: b) = (a, b, true)
  | [], b, _ => by simp [line1L]
  | c :: a, b, h => by
    rw [List.cons_append, line1L, if_neg (h c List.mem_cons_self), line1_here a b (fun x hx => h x (List.mem_cons_of_mem _ hx))]
theorem printB_cons (s : S34) (l : List S34) : printB (s :: l) = (lineB s).data.toList ++ 10 :: printB l := by simp [printB]
theorem lines_print : ∀ (l : List S34), (∀ s ∈ l, GoodS s) → linesL (printB l) = l.map fun s => (lineB s, true)
  | [], _ => rfl
  | s :: l, h => by
    have hs := h s List.mem_cons_self
    have h10 := line_no10 s (by have := hs.2.1; omega)
    rw [printB_cons, linesL_step _ (by simp), line1_here _ _ h10, lines_print l (fun x hx => h x (List.mem_cons_of_mem _ hx))]
    rfl
theorem sum_nonneg : ∀ (l : List S34), (∀ s ∈ l, GoodS s) → 0 ≤ sumC l
  | [], _ => by simp [sumC]
  | s :: l, h => by
    have := sum_nonneg l (fun x hx => h x (List.mem_cons_of_mem _ hx))
    have := (h s List.mem_cons_self).2.1
    rw [sumC_cons]; omega
theorem scan_print : ∀ (l : List S34) (all at_ : Int) (acc : List S34), (∀ s ∈ l, GoodS s) → all + sumC l ≤ 4194304 → scan (l.map fun s => (lineB s, true)) all at_ acc = (acc ++ l, 0, 0)
  | [], all, at_, acc, _, _ => by simp [scan]
  | s :: l, all, at_, acc, h, hs => by
    have hg := h s List.mem_cons_self
    have h0 := sum_nonneg l (fun x hx => h x (List.mem_cons_of_mem _ hx))
    rw [sumC_cons] at hs
    rw [List.map_cons, scan]
    simp only
    rw [read_line s hg.1 hg.2.1 hg.2.2]
    simp only [Bool.and_true]
    rw [if_neg (by decide), if_neg (by omega), scan_print l _ _ _ (fun x hx => h x (List.mem_cons_of_mem _ hx)) (by omega)]
    simp
theorem count_print : ∀ (l : List S34), (∀ s ∈ l, GoodS s) → (printB l).count 10 = l.length
  | [], _ => rfl
  | s :: l, h => by
    have hg := h s List.mem_cons_self
    have h10 := line_no10 s (by have := hg.2.1; omega)
    rw [printB_cons, List.count_append, List.count_cons_self, List.count_eq_zero.2 (fun hm => h10 10 hm rfl), count_print l (fun x hx => h x (List.mem_cons_of_mem _ hx)), List.length_cons]
    omega
theorem printB_ends : ∀ (l : List S34), l ≠ [] → ∃ a, printB l = a ++ [10]
  | [], h => (h rfl).elim
  | [s], _ => ⟨(lineB s).data.toList, by simp [printB]⟩
  | s :: t :: l, _ => by
    obtain ⟨a, ha⟩ := printB_ends (t :: l) (by simp)
    exact ⟨(lineB s).data.toList ++ 10 :: a, by rw [printB_cons, ha]; simp⟩
theorem parse_print (l : List S34) (h : ∀ s ∈ l, GoodS s) (hl : l.length ≤ 4096) (hs : sumC l ≤ 4194304) (ht : (printB l).length ≤ 65536) : parseR (printB l) = (l, 0, 0) := by
  have hc : countL (printB l) = l.length := by
    unfold countL Lib.countByte
    rw [count_print l h, if_pos]
    · omega
    · by_cases hn : l = []
      · subst hn; exact .inl rfl
      · obtain ⟨a, ha⟩ := printB_ends l hn
        refine .inr ?_
        rw [ha]
        unfold Lib.hasSuffix
        exact List.isSuffixOf_iff_suffix.2 ⟨a, rfl⟩
  unfold parseR
  rw [if_neg (by omega), lines_print l h, scan_print l 0 0 [] h (by omega)]
  rfl

/-! ### The other way -/
theorem scan_ok : ∀ (L : List (ByteArray × Bool)) (all at_ : Int) (acc m : List S34) (q : Int), scan L all at_ acc = (m, 0, q) → q = 0 ∧ m = acc ++ L.map (fun x => (readR x.1).1) ∧ (∀ x ∈ L, (readR x.1).2 = true ∧ x.2 = true) ∧ (L ≠ [] → all + sumC (L.map fun x => (readR x.1).1) ≤ 4194304)
  | [], all, at_, acc, m, q, h => by
    simp only [scan, Prod.mk.injEq, true_and] at h
    obtain ⟨rfl, rfl⟩ := h
    exact ⟨rfl, by simp, by simp, by simp⟩
  | x :: L, all, at_, acc, m, q, h => by
    rw [scan] at h
    by_cases c : ((readR x.1).2 && x.2) = false
    · rw [if_pos c] at h; simp at h
    · rw [if_neg c] at h
      by_cases c2 : 4194304 < all + (readR x.1).1.f0
      · rw [if_pos c2] at h; simp at h
      · rw [if_neg c2] at h
        obtain ⟨h0, h1, h2, h3⟩ := scan_ok L _ _ _ m q h
        simp only [Bool.not_eq_false, Bool.and_eq_true] at c
        refine ⟨h0, by rw [h1]; simp, ?_, fun _ => ?_⟩
        · intro y hy
          rcases List.mem_cons.1 hy with rfl | hy
          · exact c
          · exact h2 y hy
        · rw [List.map_cons, sumC_cons]
          by_cases hL : L = []
          · subst hL; simp [sumC]; omega
          · have := h3 hL; omega
theorem scan_bad : ∀ (L : List (ByteArray × Bool)) (all at_ : Int) (acc m : List S34) (e q : Int), 0 ≤ at_ → scan L all at_ acc = (m, e, q) → e ≠ 0 → m = [] ∧ 0 ≤ q
  | [], all, at_, acc, m, e, q, ha, h, he => by
    simp only [scan, Prod.mk.injEq] at h
    exact (he h.2.1.symm).elim
  | x :: L, all, at_, acc, m, e, q, ha, h, he => by
    rw [scan] at h
    by_cases c : ((readR x.1).2 && x.2) = false
    · rw [if_pos c] at h; simp only [Prod.mk.injEq] at h; exact ⟨h.1.symm, by omega⟩
    · rw [if_neg c] at h
      by_cases c2 : 4194304 < all + (readR x.1).1.f0
      · rw [if_pos c2] at h; simp only [Prod.mk.injEq] at h; exact ⟨h.1.symm, by omega⟩
      · rw [if_neg c2] at h
        exact scan_bad L _ _ _ m e q (by omega) h he
theorem line1_back : ∀ (l : List UInt8), (line1L l).2.2 = true → l = (line1L l).1 ++ 10 :: (line1L l).2.1
  | [], h => by simp [line1L] at h
  | c :: l, h => by
    unfold line1L at h ⊢
    by_cases e : c = 10
    · rw [if_pos e]; simp [e]
    · rw [if_neg e] at h ⊢
      have := line1_back l h
      simp only at this ⊢
      rw [List.cons_append, ← this]
theorem lines_back : ∀ (k : Nat) (l : List UInt8), l.length ≤ k → (∀ x ∈ linesL l, x.2 = true) → l = (linesL l).flatMap (fun x => x.1.data.toList ++ [10])
  | 0, l, h, _ => by
    obtain rfl : l = [] := List.length_eq_zero_iff.1 (by omega)
    rfl
  | k + 1, l, h, ha => by
    by_cases hn : l = []
    · subst hn; rfl
    · have hr := line1_rest l hn
      rw [linesL_step l hn] at ha ⊢
      have h1 := line1_back l (ha _ List.mem_cons_self)
      have h2 := lines_back k (line1L l).2.1 (by omega) (fun x hx => ha x (List.mem_cons_of_mem _ hx))
      rw [List.flatMap_cons, ← h2]
      simpa using h1
theorem count_flat : ∀ (L : List (ByteArray × Bool)), L.length ≤ (L.flatMap (fun x => x.1.data.toList ++ [10])).count 10
  | [] => Nat.le_refl _
  | x :: L => by
    have := count_flat L
    rw [List.flatMap_cons, List.count_append, List.count_append, List.length_cons]
    simp only [List.count_singleton_self]
    omega
theorem flat_congr {α β : Type} (f g : α → List β) : ∀ (L : List α), (∀ x ∈ L, f x = g x) → L.flatMap f = L.flatMap g
  | [], _ => rfl
  | x :: L, h => by rw [List.flatMap_cons, List.flatMap_cons, h x List.mem_cons_self, flat_congr f g L (fun y hy => h y (List.mem_cons_of_mem _ hy))]
/-- What a text without an error is read as: good spans, within the bounds, and their print is the text. -/
theorem parse_ok (t : List UInt8) (m : List S34) (q : Int) (h : parseR t = (m, 0, q)) : q = 0 ∧ (∀ s ∈ m, GoodS s) ∧ m.length ≤ 4096 ∧ sumC m ≤ 4194304 ∧ printB m = t ∧ t.length ≤ 65536 := by
  unfold parseR at h
  by_cases c : 65536 < t.length ∨ 4096 < countL t
  · rw [if_pos c] at h; simp at h
  · rw [if_neg c] at h
    obtain ⟨h0, h1, h2, h3⟩ := scan_ok (linesL t) 0 0 [] m q h
    rw [List.nil_append] at h1
    have hb := lines_back t.length t (Nat.le_refl _) (fun x hx => (h2 x hx).2)
    have hc := count_flat (linesL t)
    rw [← hb] at hc
    have hcl : (t.count 10 : Int) ≤ countL t := by unfold countL Lib.countByte; split <;> omega
    refine ⟨h0, ?_, ?_, ?_, ?_, by omega⟩
    · intro s hs
      rw [h1] at hs
      obtain ⟨x, hx, rfl⟩ := List.mem_map.1 hs
      have := readR_ok x.1 (h2 x hx).1
      exact ⟨this.1, this.2.1, this.2.2.1⟩
    · rw [h1, List.length_map]; omega
    · by_cases hn : linesL t = []
      · rw [h1, hn]; decide
      · have := h3 hn; rw [← h1] at this; omega
    · rw [h1]
      unfold printB
      rw [List.flatMap_map]
      refine Eq.trans ?_ hb.symm
      exact flat_congr _ _ _ fun x hx => by rw [(readR_ok x.1 (h2 x hx).1).2.2.2]
theorem parse_bad (t : List UInt8) (m : List S34) (e q : Int) (h : parseR t = (m, e, q)) (he : e ≠ 0) : m = [] ∧ 0 ≤ q := by
  unfold parseR at h
  by_cases c : 65536 < t.length ∨ 4096 < countL t
  · rw [if_pos c] at h; simp only [Prod.mk.injEq] at h; exact ⟨h.1.symm, by omega⟩
  · rw [if_neg c] at h
    exact scan_bad _ 0 0 [] m e q (Int.le_refl _) h he
end Go.Proofs.YtdjffafcmomalaaDoor.Scr
