/- The plain law of TapeReads: what the program reads of waves is what the document's answer reads. -/
import Derived.Test.YtdibgdiiamcmfaaDoorTapeReadC
import Derived.Test.YtdibgdiiamcmfaaDoorPTapex5
set_option linter.unusedVariables false
set_option linter.unusedSimpArgs false
namespace Go.Proofs.YtdibgdiiamcmfaaDoor.ReadsP
open Go Go.RowKit
open Go.Proofs.YtdibgdiiamcmfaaDoorW.PrintWords Go.Proofs.YtdibgdiiamcmfaaDoor.PTape Go.Proofs.YtdibgdiiamcmfaaDoor.Reader

def bitI (x : S37) : Int := match bitVal x with
  | none => -1
  | some false => 0
  | some true => 1

theorem bit_same (x : S37) (k : Nat) : vesperref12_Bit.f (k + 2) x.f0 x.f1 = some (bitI x) := by
  unfold vesperref12_Bit.f bitI bitVal
  by_cases c1 : x.f0 < 1
  · rw [if_pos c1, if_pos c1, vesperref12_Bit.j0, if_pos rfl]
  rw [if_neg c1, if_neg c1]
  by_cases c2 : x.f1 < 1
  · rw [if_pos c2, if_pos c2, vesperref12_Bit.j0, if_pos rfl]
  rw [if_neg c2, if_neg c2]
  by_cases c3 : x.f0 > 800
  · rw [if_pos c3, if_pos c3, vesperref12_Bit.j0, if_pos rfl]
  rw [if_neg c3, if_neg c3, vesperref12_Bit.j0]
  by_cases c4 : x.f1 > 800
  · rw [if_pos c4, if_pos (by simpa using c4)]
  rw [if_neg c4, if_neg (by simpa using c4), show wrap64 (x.f0 + x.f1) = x.f0 + x.f1 by unfold wrap64; omega]
  by_cases c5 : x.f0 + x.f1 < 40
  · rw [if_pos c5, if_pos c5, vesperref12_Bit.j1, if_pos rfl]
  rw [if_neg c5, if_neg c5, vesperref12_Bit.j1]
  by_cases c6 : x.f0 + x.f1 > 800
  · rw [if_pos c6, if_pos (by simpa using c6)]
  rw [if_neg c6, if_neg (by simpa using c6)]
  by_cases c7 : x.f0 + x.f1 > 195
  · rw [if_neg (by omega), show decide (x.f0 + x.f1 > 195) = true from decide_eq_true c7]
  · rw [if_pos (by omega), show decide (x.f0 + x.f1 > 195) = false from decide_eq_false c7]

theorem rd_at (l : List S37) (i : Nat) (h : i < l.length) : rd_T37 l (i : Int) = l[i] := by
  unfold rd_T37; simp [List.getD_eq_getElem?_getD, List.getElem?_eq_getElem h]

theorem lead_same (l : List S37) (hl : l.length ≤ 1000000000000) : ∀ (d i k : Nat), l.length = i + d → d + 30 < k →
    match lead (l.drop i) i with
    | .error (e, a) => e ≠ 0 ∧ vesperref12_byteAt.l0 k l (i : Int) 0 = some (0, e, a)
    | .ok j => j ≤ l.length ∧ ∃ k', 25 ≤ k' ∧ vesperref12_byteAt.l0 k l (i : Int) 0 = vesperref12_byteAt.l1 k' l (j : Int) 0 0 1 0 := by
  intro d
  induction d with
  | zero =>
    intro i k h hk
    obtain ⟨k, rfl⟩ : ∃ m, k = m + 1 := ⟨k - 1, by omega⟩
    rw [List.drop_of_length_le (by omega)]
    simp only [lead]
    rw [vesperref12_byteAt.l0, if_pos rfl, if_pos (by omega)]
    exact ⟨by decide, by rw [show (l.length : Int) = (i : Int) by omega]⟩
  | succ d ih =>
    intro i k h hk
    obtain ⟨k, rfl⟩ : ∃ m, k = m + 3 := ⟨k - 3, by omega⟩
    have hi : i < l.length := by omega
    have w1 : wrap64 ((i : Int) + 1) = ((i + 1 : Nat) : Int) := by unfold wrap64; omega
    rw [List.drop_eq_getElem_cons hi]
    simp only [lead]
    rw [vesperref12_byteAt.l0, if_pos rfl, if_neg (by omega), if_pos (by omega), if_pos (by omega), rd_at l i hi, bit_same l[i] k]
    simp only [Option.bind_some]
    have ih' := ih (i + 1) (k + 2) (by omega) (by omega)
    cases hb : bitVal l[i] with
    | none =>
      have : bitI l[i] = -1 := by unfold bitI; rw [hb]
      rw [this, if_pos (by decide)]
      exact ⟨by decide, rfl⟩
    | some b =>
      cases b with
      | true =>
        have : bitI l[i] = 1 := by unfold bitI; rw [hb]
        rw [this, if_neg (by decide), w1, vesperref12_byteAt.l0, if_neg (by decide)]
        exact ⟨by omega, k + 1, by omega, rfl⟩
      | false =>
        have : bitI l[i] = 0 := by unfold bitI; rw [hb]
        rw [this, if_neg (by decide), w1]
        exact ih'

theorem put_add : ∀ t : Fin 8, ∀ b : Fin 256, b.val < 2 ^ t.val → put (b.val : Int) t.val = (b.val : Int) + (2 ^ t.val : Nat) := by decide +kernel

theorem nine_same (l : List S37) (hl : l.length ≤ 1000000000000) : ∀ (n j k : Nat) (b ones : Int) (odd : Bool), n ≤ 9 → j ≤ l.length → n + 5 < k → 0 ≤ b → b < (2 ^ (min (9 - n) 8) : Nat) → 0 ≤ ones → ones ≤ 9 - n → (odd = true ↔ Int.tmod ones 2 ≠ 0) →
    match nine n (l.drop j) j b odd with
    | .error (e, a) => e ≠ 0 ∧ vesperref12_byteAt.l1 k l (j : Int) b ones ((2 ^ (min (9 - n) 8) : Nat) : Int) ((9 - n : Nat) : Int) = some (0, e, a)
    | .ok (v, i) => i ≤ l.length ∧ vesperref12_byteAt.l1 k l (j : Int) b ones ((2 ^ (min (9 - n) 8) : Nat) : Int) ((9 - n : Nat) : Int) = some (v, 0, (i : Int)) := by
  intro n
  induction n with
  | zero =>
    intro j k b ones odd _ hj hk h0 h1 o0 o1 ho
    obtain ⟨k, rfl⟩ : ∃ m, k = m + 1 := ⟨k - 1, by omega⟩
    simp only [nine]
    rw [vesperref12_byteAt.l1, if_neg (show ¬ (((9 - 0 : Nat) : Int) < 9) by omega)]
    have hb : b % 256 = b := by
      have : (2 ^ (min (9 - 0) 8) : Nat) = 256 := by decide
      rw [this] at h1; omega
    cases odd with
    | true =>
      rw [if_neg (ho.1 rfl), if_pos rfl, hb]
      exact ⟨hj, rfl⟩
    | false =>
      have hz : Int.tmod ones 2 = 0 := Decidable.byContradiction fun h => by simpa using ho.2 h
      rw [if_pos hz, if_neg (show ¬ (false = true) by decide)]
      exact ⟨by decide, by rw [show wrap64 ((j : Int) - 1) = (j : Int) - 1 by unfold wrap64; omega]⟩
  | succ n ih =>
    intro j k b ones odd hn hj hk h0 h1 o0 o1 ho
    obtain ⟨k, rfl⟩ : ∃ m, k = m + 3 := ⟨k - 3, by omega⟩
    rw [vesperref12_byteAt.l1, if_pos (show ((9 - (n + 1) : Nat) : Int) < 9 by omega)]
    by_cases hjl : j < l.length
    · have w1 : wrap64 ((j : Int) + 1) = ((j + 1 : Nat) : Int) := by unfold wrap64; omega
      have wt : wrap64 (((9 - (n + 1) : Nat) : Int) + 1) = ((9 - n : Nat) : Int) := by unfold wrap64; omega
      rw [List.drop_eq_getElem_cons hjl]
      simp only [nine]
      rw [if_neg (show ¬ ((j : Int) ≥ (l.length : Int)) by omega), if_pos (show (0 : Int) ≤ (j : Int) by omega), if_pos (show (j : Int) < (l.length : Int) by omega), rd_at l j hjl, bit_same l[j] k]
      simp only [Option.bind_some]
      have hmin : n < 9 := by omega
      cases hb : bitVal l[j] with
      | none =>
        have : bitI l[j] = -1 := by unfold bitI; rw [hb]
        rw [this, if_pos (show (-1 : Int) < 0 by decide)]
        exact ⟨by decide, rfl⟩
      | some bb =>
        obtain ⟨bv, hbv⟩ : ∃ bv : Int, bitI l[j] = bv := ⟨_, rfl⟩
        have hbv' : bv = if bb then 1 else 0 := by rw [← hbv]; unfold bitI; rw [hb]; cases bb <;> rfl
        have hbd : 0 ≤ bv ∧ bv ≤ 1 := by rw [hbv']; cases bb <;> simp
        rw [hbv, if_neg (show ¬ (bv < 0) by omega), w1, wt, show wrap64 (ones + bv) = ones + bv by unfold wrap64; omega]
        have hpow : ((2 ^ (min (9 - (n + 1)) 8) : Nat) : Int) ≤ 256 := by
          have : (2 ^ (min (9 - (n + 1)) 8) : Nat) ≤ 2 ^ 8 := Nat.pow_le_pow_right (by decide) (Nat.min_le_right _ _)
          have e : (2 ^ 8 : Nat) = 256 := by decide
          omega
        have hodd : (if bb then !odd else odd) = true ↔ Int.tmod (ones + bv) 2 ≠ 0 := by
          rw [hbv']
          have e1 : Int.tmod ones 2 = ones % 2 := Int.tmod_eq_emod_of_nonneg o0
          have e2 : Int.tmod (ones + if bb then 1 else 0) 2 = (ones + if bb then 1 else 0) % 2 := Int.tmod_eq_emod_of_nonneg (by split <;> omega)
          rw [e2]
          rw [e1] at ho
          cases bb <;> cases odd <;> simp at ho ⊢ <;> omega
        by_cases c8 : n = 0
        · subst c8
          rw [if_neg (show ¬ (((9 - (0 + 1) : Nat) : Int) < 8) by omega)]
          have := ih (j + 1) (k + 2) b (ones + bv) (if bb then !odd else odd) (by omega) (by omega) (by omega) h0 h1 (by omega) (by omega) hodd
          cases bb <;> simpa using this
        · rw [if_pos (show ((9 - (n + 1) : Nat) : Int) < 8 by omega)]
          have e9 : min (9 - (n + 1)) 8 = 8 - n := by omega
          have e8 : min (9 - n) 8 = 8 - n + 1 := by omega
          rw [e9] at h1 hpow ⊢
          obtain ⟨q, hq⟩ : ∃ q : Nat, 2 ^ (8 - n) = q := ⟨_, rfl⟩
          have hq2 : 2 ^ (8 - n + 1) = 2 * q := by rw [Nat.pow_succ, hq]; omega
          have hputt : put b (8 - n) = b + (q : Int) := by
            obtain ⟨m, rfl⟩ := Int.eq_ofNat_of_zero_le h0
            have := put_add ⟨8 - n, by omega⟩ ⟨m, by omega⟩ (by simp only; omega)
            simp only at this
            rw [this, hq]
          rw [hq] at h1 hpow ⊢
          have hmul : wrap64 (b + wrap64 (bv * (q : Int))) = b + bv * (q : Int) := by
            have : bv * (q : Int) = if bb then (q : Int) else 0 := by rw [hbv']; cases bb <;> simp
            rw [this]; unfold wrap64; split <;> omega
          have h2q : wrap64 (2 * (q : Int)) = ((2 * q : Nat) : Int) := by unfold wrap64; omega
          rw [hmul, h2q]
          have := ih (j + 1) (k + 2) (b + bv * (q : Int)) (ones + bv) (if bb then !odd else odd) (by omega) (by omega) (by omega) (by rw [hbv']; split <;> omega) (by rw [e8, hq2, hbv']; split <;> omega) (by omega) (by omega) hodd
          rw [e8, hq2] at this
          rw [hbv'] at this ⊢
          cases bb with
          | true =>
            simp only [if_true, Int.one_mul] at this ⊢
            rw [if_pos (show 8 - n < 8 by omega), hputt]
            exact this
          | false =>
            simp only [Bool.false_eq_true, if_false, Int.zero_mul, Int.add_zero] at this ⊢
            exact this
    · rw [List.drop_of_length_le (by omega)]
      simp only [nine]
      rw [if_pos (show (j : Int) ≥ (l.length : Int) by omega)]
      exact ⟨by decide, by rw [show (l.length : Int) = (j : Int) by omega]⟩

theorem byte_same (l : List S37) (hl : l.length ≤ 1000000000000) (i k : Nat) (hi : i ≤ l.length) (hk : l.length + 30 < k) :
    match byteM l i with
    | .error (e, a) => e ≠ 0 ∧ vesperref12_byteAt.f k l (i : Int) = some (0, e, a)
    | .ok (v, j) => j ≤ l.length ∧ vesperref12_byteAt.f k l (i : Int) = some (v, 0, (j : Int)) := by
  have h := lead_same l hl (l.length - i) i k (by omega) (by omega)
  unfold byteM vesperref12_byteAt.f
  cases he : lead (l.drop i) i with
  | error p => rw [he] at h; exact h
  | ok j =>
    rw [he] at h
    obtain ⟨hj, k', hk', e⟩ := h
    rw [e]
    exact nine_same l hl 9 j k' 0 0 false (Nat.le_refl _) hj (by omega) (Int.le_refl _) (by decide) (Int.le_refl _) (by decide) (by decide)

theorem read_same' (l : List S37) (hl : l.length ≤ 1000000000000) (a1 : Int) (ha : a1 ≤ 16384) : ∀ (n i t k : Nat) (acc : List Int), i ≤ l.length → a1 = t + n → acc.length ≤ t → l.length + n + 40 < k →
    match readM l n i acc with
    | .error (e, a) => e ≠ 0 ∧ vesperref12_Read.l0 k l a1 acc (i : Int) (t : Int) = some ([], e, a)
    | .ok bs => vesperref12_Read.l0 k l a1 acc (i : Int) (t : Int) = some (bs, 0, 0) ∧ bs.length ≤ t + n := by
  intro n
  induction n with
  | zero =>
    intro i t k acc hi h hacc hk
    obtain ⟨k, rfl⟩ : ∃ m, k = m + 1 := ⟨k - 1, by omega⟩
    simp only [readM]
    rw [vesperref12_Read.l0, if_neg (by omega)]
    exact ⟨rfl, by omega⟩
  | succ n ih =>
    intro i t k acc hi h hacc hk
    obtain ⟨k, rfl⟩ : ∃ m, k = m + 1 := ⟨k - 1, by omega⟩
    have hb := byte_same l hl i k hi (by omega)
    simp only [readM]
    rw [vesperref12_Read.l0, if_pos (by omega)]
    cases he : byteM l i with
    | error p =>
      rw [he] at hb
      obtain ⟨hne, hb⟩ := hb
      rw [hb]
      simp only [Option.bind_some]
      rw [if_neg hne]
      exact ⟨hne, rfl⟩
    | ok p =>
      obtain ⟨v, j⟩ := p
      rw [he] at hb
      obtain ⟨hj, hb⟩ := hb
      rw [hb]
      simp only [Option.bind_some]
      rw [if_pos trivial, if_pos (by omega), show wrap64 ((t : Int) + 1) = ((t + 1 : Nat) : Int) by unfold wrap64; omega]
      have := ih j (t + 1) k (acc ++ [v]) hj (by omega) (by simp; omega) (by omega)
      cases hr : readM l n j (acc ++ [v]) with
      | error p => rw [hr] at this; exact this
      | ok bs => rw [hr] at this; exact ⟨this.1, by have := this.2; omega⟩

theorem read_same (l : List S37) (hl : l.length ≤ 1000000000000) (a : Int) : ∃ r : List Int × Int × Int, tape_Read.f l a = some r ∧ vesperref12_Read.f (l.length + 20000) l a = some r ∧ r.1.length ≤ 16384 := by
  unfold tape_Read.f vesperref12_Read.f
  by_cases c1 : a < 0
  · rw [if_pos c1, if_pos c1, vesperref12_Read.j0, if_pos rfl]; exact ⟨_, rfl, rfl, by simp⟩
  rw [if_neg c1, if_neg c1, vesperref12_Read.j0]
  by_cases c2 : a > 16384
  · rw [if_pos c2, if_pos (by simpa using c2)]; exact ⟨_, rfl, rfl, by simp⟩
  rw [if_neg c2, if_neg (by simpa using c2)]
  have h := read_same' l hl a (by omega) a.toNat 0 0 (l.length + 19999) [] (by omega) (by omega) (by simp) (by omega)
  simp only [Int.natCast_zero] at h
  cases hr : readM l a.toNat 0 [] with
  | error p => rw [hr] at h; exact ⟨_, rfl, h.2, by simp⟩
  | ok bs => rw [hr] at h; exact ⟨_, rfl, h.1, by have := h.2; simp only; omega⟩
end Go.Proofs.YtdibgdiiamcmfaaDoor.ReadsP
