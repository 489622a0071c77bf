/- The plain law of AsmObjects: labels. -/
import Derived.Test.YtbffmfeflcdgbaaDoorAsmP2
import Derived.Test.YtbffmfeflcdgbaaDoorAsmChk
set_option linter.unusedVariables false
set_option linter.unusedSimpArgs false
namespace Go.Proofs.YtbffmfeflcdgbaaDoor.P
open Go Go.RowKit
open Go.Proofs.YtbffmfeflcdgbaaDoorW.PrintWords Go.Proofs.YtbffmfeflcdgbaaDoor.POb Go.Proofs.YtbffmfeflcdgbaaDoor.Chk Go.Proofs.YtbffmfeflcdgbaaDoor.Nm

theorem cmp_less : ∀ (a b : List UInt8), (Lib.compareBytes a b > 0 ↔ Op.bytesLess b a = true) ∧ (Op.bytesLess a b = false → Op.bytesLess b a = true ∨ a = b) ∧ (Op.bytesLess a b = true → Op.bytesLess b a = false)
 | [], [] => by simp [Lib.compareBytes, Op.bytesLess]
 | [], y :: b => by simp [Lib.compareBytes, Op.bytesLess]
 | x :: a, [] => by simp [Lib.compareBytes, Op.bytesLess]
 | x :: a, y :: b => by
  obtain ⟨h1, h3, h4⟩ := cmp_less a b
  have hlt : ∀ p q : UInt8, (p < q) = (p.toNat < q.toNat) := fun p q => rfl
  rcases Nat.lt_trichotomy x.toNat y.toNat with h | h | h
  ·have e1 : x < y := by rw [hlt]; exact h
   have e2 : ¬ y < x := by rw [hlt]; omega
   have e3 : ¬ y = x := fun e => by rw [e] at h; omega
   simp [Lib.compareBytes, Op.bytesLess, e1, e2, e3]
  ·obtain rfl : x = y := UInt8.toNat_inj.1 h
   have e2 : ¬ x < x := by rw [hlt]; omega
   simp only [Lib.compareBytes, Op.bytesLess, e2, if_false, decide_false, Bool.false_or, beq_self_eq_true, Bool.true_and, List.cons.injEq, true_and]
   exact ⟨h1, h3, h4⟩
  have e1 : y < x := by rw [hlt]; exact h
  have e2 : ¬ x < y := by rw [hlt]; omega
  have e3 : ¬ x = y := fun e => by rw [e] at h; omega
  simp [Lib.compareBytes, Op.bytesLess, e1, e2, e3]

theorem dup_no (l2 : List S47) (hm : l2.length ≤ 10000000000) (k : Nat) (hk : k < l2.length) : ∀ (d j K : Nat), j + d = k → (∀ i, j ≤ i → i < k → (rd_T47 l2 (i : Int)).f0.toList ≠ (rd_T47 l2 (k : Int)).f0.toList) →
 vesperref14_labelsMay.l1 (K + d + 1) l2 (k : Int) (j : Int) = vesperref14_labelsMay.l0 K l2 ((k + 1 : Nat) : Int) := by
 intro d
 induction d with
 | zero =>
  intro j K hj hn
  rw [show K + 0 + 1 = K + 1 from rfl, vesperref14_labelsMay.l1, if_neg (by omega), w1 k (by omega)]
 | succ d ih =>
  intro j K hj hn
  rw [show K + (d + 1) + 1 = (K + d + 1) + 1 by omega, vesperref14_labelsMay.l1, if_pos (by omega), if_pos (by omega), if_pos (by omega), if_pos (by omega), if_pos (by omega), if_neg (hn j (Nat.le_refl _) (by omega)), w1 j (by omega)]
  exact ih (j + 1) K (by omega) (fun i hi => hn i (by omega))
theorem dup_yes (l2 : List S47) (hm : l2.length ≤ 10000000000) (k : Nat) (hk : k < l2.length) : ∀ (d j K : Nat), j + d = k → (∃ i, j ≤ i ∧ i < k ∧ (rd_T47 l2 (i : Int)).f0.toList = (rd_T47 l2 (k : Int)).f0.toList) →
 vesperref14_labelsMay.l1 (K + d + 1) l2 (k : Int) (j : Int) = some false := by
 intro d
 induction d with
 | zero =>
  intro j K hj ⟨i, h1, h2, _⟩
  omega
 | succ d ih =>
  intro j K hj ⟨i, h1, h2, h3⟩
  rw [show K + (d + 1) + 1 = (K + d + 1) + 1 by omega, vesperref14_labelsMay.l1, if_pos (by omega), if_pos (by omega), if_pos (by omega), if_pos (by omega), if_pos (by omega)]
  by_cases e : (rd_T47 l2 (j : Int)).f0.toList = (rd_T47 l2 (k : Int)).f0.toList
  ·rw [if_pos e]
  rw [if_neg e, w1 j (by omega)]
  refine ih (j + 1) K (by omega) ⟨i, ?_, h2, h3⟩
  rcases Nat.eq_or_lt_of_le h1 with rfl | h
  ·exact absurd h3 e
  omega

/-- What the two orders say of two labels one behind another. -/
theorem ord_before (p x : S47) : ∃ t, vesperref14_before.f p.f0 p.f1 x.f0 x.f1 = some t ∧ (ordR (cmpI p.f1 x.f1) (Lib.compareBytes p.f0.data.toList x.f0.data.toList) > 0 → t = false) ∧ (t = false → ordR (cmpI p.f1 x.f1) (Lib.compareBytes p.f0.data.toList x.f0.data.toList) > 0 ∨ p.f0.data.toList = x.f0.data.toList) := by
 obtain ⟨h1, h3, h4⟩ := cmp_less p.f0.data.toList x.f0.data.toList
 unfold vesperref14_before.f cmpI
 rw [Lib.toList_data, Lib.toList_data]
 by_cases a : p.f1 < x.f1
 ·refine ⟨true, by rw [if_pos a], fun h => ?_, fun h => by cases h⟩
  rw [if_pos a] at h
  exact absurd h (by unfold ordR; rw [if_neg (show ¬ ((-1 : Int) = 0) by decide)]; decide)
 by_cases b : p.f1 = x.f1
 ·refine ⟨_, by rw [if_neg a, if_pos b], fun h => ?_, fun h => ?_⟩
  ·rw [if_neg a, if_neg (by omega)] at h
   have h5 : Lib.compareBytes p.f0.data.toList x.f0.data.toList > 0 := by simpa [ordR] using h
   have h6 := h1.1 h5
   cases hq : Op.bytesLess p.f0.data.toList x.f0.data.toList with
   | false => rfl
   | true => rw [h4 hq] at h6; cases h6
  rw [if_neg a, if_neg (by omega)]
  rcases h3 h with h6 | h6
  ·left; simpa [ordR] using h1.2 h6
  exact .inr h6
 refine ⟨false, by rw [if_neg a, if_neg b], fun h => rfl, fun h => .inl ?_⟩
 rw [if_neg a, if_pos (by omega)]
 unfold ordR; rw [if_neg (show ¬ ((1 : Int) = 0) by decide)]; decide

theorem labels_l (l2 : List S47) (hm : l2.length ≤ 10000000000) : ∀ (d k K : Nat) (seen : List (List UInt8)), k + d = l2.length → d * (l2.length + 4) + 21 ≤ K →
 (∀ nm, nm ∈ seen ↔ ∃ j, j < k ∧ (rd_T47 l2 (j : Int)).f0.data.toList = nm) → vesperref14_labelsMay.l0 K l2 (k : Int) = some (labelsB seen (prevL l2 k) (l2.drop k)) := by
 intro d
 induction d with
 | zero =>
  intro k K seen hk hK hs
  obtain ⟨K, rfl⟩ : ∃ j, K = j + 1 := ⟨K - 1, by omega⟩
  rw [vesperref14_labelsMay.l0, if_neg (by omega), List.drop_eq_nil_of_le (by omega)]
  rfl
 | succ d ih =>
  intro k K seen hk hK hs
  rw [Nat.succ_mul] at hK
  have hlt : k < l2.length := by omega
  obtain ⟨K, rfl⟩ : ∃ j, K = j + (k + 1) + 1 + 1 + 1 := ⟨K - (k + 4), by omega⟩
  have hKK : d * (l2.length + 4) + 21 ≤ K := by omega
  rw [dr47 hlt, vesperref14_labelsMay.l0, if_pos (by omega), if_pos (by omega), name_f _ _ (by omega), Option.bind_some]
  have hx : ∀ j : Nat, (rd_T47 l2 (j : Int)).f0.toList = (rd_T47 l2 (j : Int)).f0.data.toList := fun j => Lib.toList_data _
  have htail : labelsB ((rd_T47 l2 (k : Int)).f0.data.toList :: seen) (some (rd_T47 l2 (k : Int))) (l2.drop (k + 1)) = labelsB ((rd_T47 l2 (k : Int)).f0.data.toList :: seen) (prevL l2 (k + 1)) (l2.drop (k + 1)) := by rw [prevL_succ rfl]
  have hih := ih (k + 1) K ((rd_T47 l2 (k : Int)).f0.data.toList :: seen) (by omega) hKK (fun nm => by
   rw [List.mem_cons, hs]
   constructor
   ·rintro (rfl | ⟨j, h1, h2⟩)
    ·exact ⟨k, by omega, rfl⟩
    exact ⟨j, by omega, h2⟩
   rintro ⟨j, h1, h2⟩
   by_cases e : j = k
   ·subst e; exact .inl h2.symm
   exact .inr ⟨j, by omega, h2⟩)
  rw [← htail] at hih
  unfold labelsB
  -- the first three
  by_cases g1 : (!nameB (rd_T47 l2 (k : Int)).f0 || decide ((rd_T47 l2 (k : Int)).f1 < 0) || decide ((rd_T47 l2 (k : Int)).f1 ≥ 65536)) = true
  ·have hb : badL seen (prevL l2 k) (rd_T47 l2 (k : Int)) = true := by unfold badL; rw [g1]; simp
   rw [hb]
   have : ∀ b : Bool, b = true → vesperref14_labelsMay.j1 (K + (k + 1) + 1 + 1) l2 (k : Int) b = some false := fun b hb => by rw [hb, vesperref14_labelsMay.j1, if_pos rfl]
   cases hn : nameB (rd_T47 l2 (k : Int)).f0 with
   | false => rw [if_neg (by decide), this true rfl]; rfl
   | true =>
    rw [if_pos rfl]
    rw [hn] at g1
    by_cases g2 : (rd_T47 l2 (k : Int)).f1 < 0
    ·rw [if_pos g2, this true rfl]; rfl
    rw [if_neg g2, this _ (by simpa [g2] using g1)]; rfl
  have g1' := Bool.eq_false_iff.2 g1
  simp only [Bool.or_eq_false_iff, Bool.not_eq_false', decide_eq_false_iff_not] at g1'
  obtain ⟨⟨hn, g2⟩, g3⟩ := g1'
  have hbad : badL seen (prevL l2 k) (rd_T47 l2 (k : Int)) = (decide ((rd_T47 l2 (k : Int)).f0.data.toList ∈ seen) || (match prevL l2 k with | none => false | some q => decide (ordR (cmpI q.f1 (rd_T47 l2 (k : Int)).f1) (Lib.compareBytes q.f0.data.toList (rd_T47 l2 (k : Int)).f0.data.toList) > 0))) := by
   unfold badL
   rw [Bool.eq_false_iff.2 g1, Bool.false_or]
   rfl
  rw [if_pos hn, if_neg g2, decide_eq_false g3, vesperref14_labelsMay.j1, if_neg (by decide)]
  have hdup : ∀ K', (∃ i, 0 ≤ i ∧ i < k ∧ (rd_T47 l2 (i : Int)).f0.toList = (rd_T47 l2 (k : Int)).f0.toList) → vesperref14_labelsMay.l1 (K' + k + 1) l2 (k : Int) 0 = some false := fun K' h => dup_yes l2 hm k hlt k 0 K' (by omega) h
  have hnod : ∀ K', (∀ i, 0 ≤ i → i < k → (rd_T47 l2 (i : Int)).f0.toList ≠ (rd_T47 l2 (k : Int)).f0.toList) → vesperref14_labelsMay.l1 (K' + k + 1) l2 (k : Int) 0 = vesperref14_labelsMay.l0 K' l2 ((k + 1 : Nat) : Int) := fun K' h => dup_no l2 hm k hlt k 0 K' (by omega) h
  have hmem : (rd_T47 l2 (k : Int)).f0.data.toList ∈ seen ↔ ∃ i, 0 ≤ i ∧ i < k ∧ (rd_T47 l2 (i : Int)).f0.toList = (rd_T47 l2 (k : Int)).f0.toList := by
   rw [hs]
   constructor
   ·rintro ⟨j, h1, h2⟩; exact ⟨j, Nat.zero_le _, h1, by rw [hx, hx]; exact h2⟩
   rintro ⟨j, _, h1, h2⟩; rw [hx, hx] at h2; exact ⟨j, h1, h2⟩
  -- the rest: what j2 does
  have hj2 : ∀ t : Bool, (t = true → badL seen (prevL l2 k) (rd_T47 l2 (k : Int)) = true) → (t = false → ¬ (rd_T47 l2 (k : Int)).f0.data.toList ∈ seen → badL seen (prevL l2 k) (rd_T47 l2 (k : Int)) = false) →
   vesperref14_labelsMay.j2 (K + (k + 1) + 1) l2 (k : Int) t = some (!badL seen (prevL l2 k) (rd_T47 l2 (k : Int)) && labelsB ((rd_T47 l2 (k : Int)).f0.data.toList :: seen) (some (rd_T47 l2 (k : Int))) (l2.drop (k + 1))) := by
   intro t ht hf
   rw [vesperref14_labelsMay.j2]
   cases t with
   | true => rw [if_pos rfl, ht rfl]; rfl
   | false =>
    rw [if_neg (by decide), show K + (k + 1) = K + k + 1 by omega]
    by_cases hme : (rd_T47 l2 (k : Int)).f0.data.toList ∈ seen
    ·rw [hdup K (hmem.1 hme), hbad, decide_eq_true hme]; rfl
    rw [hnod K (fun i h1 h2 h3 => hme (hmem.2 ⟨i, h1, h2, h3⟩)), hih, hf rfl hme]; rfl
  by_cases hk0 : k = 0
  ·subst hk0
   rw [if_neg (by decide)]
   refine hj2 false (fun h => by cases h) (fun _ hme => ?_)
   rw [hbad, decide_eq_false hme]; rfl
  have hp : prevL l2 k = some (rd_T47 l2 ((k : Int) - 1)) := if_neg hk0
  have hw : wrap64 ((k : Int) - 1) = (k : Int) - 1 := by unfold wrap64; omega
  obtain ⟨t, ht, h1, h2⟩ := ord_before (rd_T47 l2 ((k : Int) - 1)) (rd_T47 l2 (k : Int))
  rw [if_pos (by omega), hw, if_pos (by omega), if_pos (by omega), if_pos (by omega), if_pos (by omega), ht, Option.bind_some]
  have hpm : ∀ nm, (rd_T47 l2 ((k : Int) - 1)).f0.data.toList = nm → nm ∈ seen := fun nm h => (hs nm).2 ⟨k - 1, by omega, by rw [show ((k - 1 : Nat) : Int) = (k : Int) - 1 by omega]; exact h⟩
  refine hj2 (!t) (fun h => ?_) (fun h hme => ?_)
  ·rw [hbad, hp]
   dsimp only
   have ht2 : t = false := by simpa using h
   rcases h2 ht2 with h3 | h3
   ·rw [decide_eq_true h3, Bool.or_true]
   rw [decide_eq_true (hpm _ h3)]; rfl
  rw [hbad, hp, decide_eq_false hme]
  dsimp only
  have ht2 : t = true := by simpa using h
  rw [decide_eq_false (fun h3 => by rw [h1 h3] at ht2; cases ht2)]; rfl
theorem labels_f (l2 : List S47) (hm : l2.length ≤ 10000000000) (K : Nat) (hK : l2.length * (l2.length + 4) + 21 ≤ K) : vesperref14_labelsMay.f K l2 = some (labelsB [] none l2) := by
 have := labels_l l2 hm l2.length 0 K [] (by omega) hK (fun nm => by simp)
 unfold vesperref14_labelsMay.f
 simpa [prevL] using this
end Go.Proofs.YtbffmfeflcdgbaaDoor.P
