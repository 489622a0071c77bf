/- The plain law of TapeWrites: what the program writes is what the document's answer writes. -/
import Derived.Test.YtdibgdiiamcmfaaDoorTapeWriteC
import Derived.Test.YtdibgdiiamcmfaaDoorPTapex3
set_option linter.unusedVariables false
set_option linter.unusedSimpArgs false
namespace Go.Proofs.YtdibgdiiamcmfaaDoor.WritesP
open Go Go.RowKit
open Go.Proofs.YtdibgdiiamcmfaaDoorW.PrintWords Go.Proofs.YtdibgdiiamcmfaaDoor.PTape
open Go.Proofs.YtdibgdiiamcmfaaDoor.Bits (tenOf bitsOf odds bits_len bitB)
open Go.Proofs.YtdibgdiiamcmfaaDoor.Write

def bI (x : Int) (j : Nat) : Int := if bitB x j then 1 else 0
def onesN (x : Int) : Nat → Int
  | 0 => 0
  | j + 1 => onesN x j + bI x j
theorem bit_at : ∀ x : Fin 256, ∀ j : Fin 8, Int.tmod ((x.val : Int) / (2 ^ j.val : Nat)) 2 = bI (x.val : Int) j.val ∧ Int.tdiv ((x.val : Int) / (2 ^ j.val : Nat)) 2 = (x.val : Int) / (2 ^ (j.val + 1) : Nat) := by decide +kernel
theorem odd_at : ∀ x : Fin 256, Int.tmod (onesN (x.val : Int) 8 + 1) 2 = (if odds (bitsOf (x.val : Int)) then 1 else 0) := by decide +kernel
theorem ones_bd (x : Int) : ∀ j : Nat, 0 ≤ onesN x j ∧ onesN x j ≤ j
  | 0 => ⟨Int.le_refl _, Int.le_refl _⟩
  | j + 1 => by
    have := ones_bd x j
    simp only [onesN, bI]
    split <;> omega
theorem wave_of (b : Bool) : vesperref12_Wave.f (if b then 1 else 0) = some ((waveS b).f0, (waveS b).f1) := by cases b <;> rfl

theorem l2_step (l : List Int) (i : Int) (x : Int) (h0 : 0 ≤ x) (h1 : x < 256) (j : Nat) (hj : j < 8) (k : Nat) (acc : List S37) (ha : acc.length < 8796093022208) :
    vesperref12_Write.l2 (k + 1) l acc i (onesN x j) (x / (2 ^ j : Nat)) (j : Int) = vesperref12_Write.l2 k l (acc ++ [waveS (bitB x j)]) i (onesN x (j + 1)) (x / (2 ^ (j + 1) : Nat)) ((j + 1 : Nat) : Int) := by
  obtain ⟨n, rfl⟩ := Int.eq_ofNat_of_zero_le h0
  obtain ⟨e1, e2⟩ := bit_at ⟨n, by omega⟩ ⟨j, hj⟩
  simp only at e1 e2
  have hb := ones_bd (n : Int) (j + 1)
  rw [vesperref12_Write.l2, if_pos (by omega), e1, e2]
  have hw : vesperref12_Wave.f (bI (n : Int) j) = some ((waveS (bitB (n : Int) j)).f0, (waveS (bitB (n : Int) j)).f1) := wave_of _
  rw [hw]
  simp only [Option.bind_some]
  rw [if_pos ha]
  have d1 : wrap64 (onesN (n : Int) j + bI (n : Int) j) = onesN (n : Int) (j + 1) := by
    show _ = onesN (n : Int) j + bI (n : Int) j
    have : onesN (n : Int) (j + 1) = onesN (n : Int) j + bI (n : Int) j := rfl
    unfold wrap64; omega
  have d2 : wrap64 ((n : Int) / (2 ^ (j + 1) : Nat)) = (n : Int) / (2 ^ (j + 1) : Nat) := by
    obtain ⟨q, hq, hq2⟩ : ∃ q : Nat, (n : Int) / ((2 ^ (j + 1) : Nat) : Int) = q ∧ q ≤ n := ⟨n / 2 ^ (j + 1), (Int.natCast_ediv _ _).symm, Nat.div_le_self _ _⟩
    rw [hq]; unfold wrap64; omega
  have d3 : wrap64 ((j : Int) + 1) = ((j + 1 : Nat) : Int) := by unfold wrap64; omega
  rw [d1, d2, d3]

theorem l2_all (l : List Int) (i : Int) (x : Int) (h0 : 0 ≤ x) (h1 : x < 256) (k : Nat) (acc : List S37) (ha : acc.length + 20 < 8796093022208) :
    ∀ j : Nat, j ≤ 8 → vesperref12_Write.l2 (k + 8) l acc i 0 x 0 = vesperref12_Write.l2 (k + (8 - j)) l (acc ++ ((bitsOf x).take j).map waveS) i (onesN x j) (x / (2 ^ j : Nat)) (j : Int) := by
  intro j
  induction j with
  | zero => intro _; simp [onesN]
  | succ j ih =>
    intro hj
    rw [ih (by omega), show k + (8 - j) = (k + (8 - (j + 1))) + 1 by omega, l2_step l i x h0 h1 j (by omega) _ _ (by simp; omega)]
    rw [Bits.take_next x j (by omega), List.map_append, List.append_assoc]
    rfl

theorem ten (l : List Int) (i : Nat) (x : Int) (h0 : 0 ≤ x) (h1 : x < 256) (k : Nat) (acc : List S37) (ha : acc.length + 40 < 8796093022208) (hi : i < 1000000) :
    vesperref12_Write.l2 (k + 9) l (acc ++ [waveS true]) (i : Int) 0 x 0 = vesperref12_Write.l1 k l (acc ++ (tenOf x).map waveS) ((i + 1 : Nat) : Int) := by
  rw [show k + 9 = (k + 1) + 8 by omega, l2_all l i x h0 h1 (k + 1) _ (by simp; omega) 8 (by omega)]
  rw [show k + 1 + (8 - 8) = k + 1 by omega, vesperref12_Write.l2, if_neg (show ¬ (((8 : Nat) : Int) < 8) by omega)]
  obtain ⟨n, rfl⟩ := Int.eq_ofNat_of_zero_le h0
  have e := odd_at ⟨n, by omega⟩
  simp only at e
  have hb := ones_bd (n : Int) 8
  rw [show wrap64 (onesN (n : Int) 8 + 1) = onesN (n : Int) 8 + 1 by unfold wrap64; omega, e, wave_of]
  simp only [Option.bind_some]
  rw [if_pos (by simp [bits_len]; omega), List.take_of_length_le (by simp [bits_len]), show wrap64 ((i : Int) + 1) = ((i + 1 : Nat) : Int) by unfold wrap64; omega]
  simp [tenOf]

theorem bytes_all (l : List Int) (hl : l.length ≤ 16384) (hb : ∀ x ∈ l, 0 ≤ x ∧ x < 256) : ∀ (d i k : Nat) (acc : List S37), l.length = i + d → acc.length ≤ 100000 + 10 * i → 10 * d < k →
    vesperref12_Write.l1 k l acc (i : Int) = some (acc ++ ((l.drop i).flatMap tenOf).map waveS, 0) := by
  intro d
  induction d with
  | zero =>
    intro i k acc h _ hk
    obtain ⟨k, rfl⟩ : ∃ m, k = m + 1 := ⟨k - 1, by omega⟩
    rw [vesperref12_Write.l1, if_neg (by omega), List.drop_of_length_le (by omega)]
    simp
  | succ d ih =>
    intro i k acc h ha hk
    obtain ⟨k, rfl⟩ : ∃ m, k = m + 10 := ⟨k - 10, by omega⟩
    have hi : i < l.length := by omega
    obtain ⟨x0, x1⟩ := hb l[i] (List.getElem_mem hi)
    have hrd : rd l (i : Int) = l[i] := by
      unfold rd; simp [List.getD_eq_getElem?_getD, List.getElem?_eq_getElem hi]
    rw [vesperref12_Write.l1, if_pos (by omega), show vesperref12_Wave.f 1 = some ((waveS true).f0, (waveS true).f1) from rfl]
    simp only [Option.bind_some]
    rw [if_pos (by omega), if_pos (by omega), hrd, show wrap64 l[i] = l[i] by unfold wrap64; omega]
    have ht := ten l i l[i] x0 x1 k acc (by omega) (by omega)
    rw [show (⟨(waveS true).f0, (waveS true).f1⟩ : S37) = waveS true from rfl, ht, ih (i + 1) k _ (by omega) (by simp [tenOf, bits_len]; omega) (by omega)]
    rw [List.drop_eq_getElem_cons hi, List.flatMap_cons, List.map_append, List.append_assoc]

theorem lead_all (l : List Int) (a : Int) (ha0 : a ≤ 16384) : ∀ (d i k : Nat), a = i + d → d < k → vesperref12_Write.l0 k l a (List.replicate i (waveS false)) (i : Int) = vesperref12_Write.l1 (k - d - 1) l (List.replicate (i + d) (waveS false)) 0 := by
  intro d
  induction d with
  | zero =>
    intro i k h hk
    obtain ⟨k, rfl⟩ : ∃ m, k = m + 1 := ⟨k - 1, by omega⟩
    rw [vesperref12_Write.l0, if_neg (by omega)]; rfl
  | succ d ih =>
    intro i k h hk
    obtain ⟨k, rfl⟩ : ∃ m, k = m + 1 := ⟨k - 1, by omega⟩
    rw [vesperref12_Write.l0, if_pos (by omega), show vesperref12_Wave.f 0 = some ((waveS false).f0, (waveS false).f1) from rfl]
    simp only [Option.bind_some]
    rw [if_pos (by simp; omega), show wrap64 ((i : Int) + 1) = ((i + 1 : Nat) : Int) by unfold wrap64; omega, show (⟨(waveS false).f0, (waveS false).f1⟩ : S37) = waveS false from rfl, ← List.replicate_succ', ih (i + 1) k (by omega) (by omega)]
    rw [show k + 1 - (d + 1) - 1 = k - d - 1 by omega, show i + (d + 1) = i + 1 + d by omega]

theorem write_same (l : List Int) (hb : ∀ x ∈ l, 0 ≤ x ∧ x < 256) (a : Int) : ∃ r : List S37 × Int, tape_Write.f l a = some r ∧ vesperref12_Write.f 300000 l a = some r ∧ r.1.length ≤ 200000 := by
  have hall : l.all byteB = true := by
    rw [List.all_eq_true]; intro x hx; obtain ⟨h0, h1⟩ := hb x hx; simp [byteB, h0, h1]
  unfold tape_Write.f vesperref12_Write.f
  rw [if_pos hall]
  by_cases c0 : l.length > 16384
  · rw [if_pos c0, if_pos (show (l.length : Int) > 16384 by omega)]; exact ⟨_, rfl, rfl, by simp⟩
  rw [if_neg c0, if_neg (show ¬ ((l.length : Int) > 16384) by omega)]
  by_cases c1 : a < 0
  · rw [if_pos c1, if_pos c1, vesperref12_Write.j0, if_pos rfl]; exact ⟨_, rfl, rfl, by simp⟩
  rw [if_neg c1, if_neg c1, vesperref12_Write.j0]
  by_cases c2 : a > 16384
  · rw [if_pos c2, if_pos (by simpa using c2)]; exact ⟨_, rfl, rfl, by simp⟩
  rw [if_neg c2, if_neg (by simpa using c2)]
  refine ⟨_, rfl, ?_, ?_⟩
  · have h := lead_all l a (by omega) a.toNat 0 299999 (by omega) (by omega)
    simp only [List.replicate_zero, Int.natCast_zero, Nat.zero_add] at h
    have h2 := bytes_all l (by omega) hb l.length 0 (299999 - a.toNat - 1) (List.replicate a.toNat (waveS false)) (by omega) (by simp; omega) (by omega)
    simp only [Int.natCast_zero, List.drop_zero] at h2
    rw [h, h2]
    simp [wavesOf]
  · have : (wavesOf a l).length = a.toNat + 10 * l.length := by
      simp only [wavesOf, List.length_append, List.length_replicate, List.length_flatMap]
      have : ∀ (l : List Int), (l.map fun x => (tenOf x).length).sum = 10 * l.length := by
        intro l; induction l with
        | nil => rfl
        | cons x xs ih => simp only [List.map_cons, List.sum_cons, ih, List.length_cons]; simp [tenOf, bits_len]; omega
      rw [this]
    simp only [List.length_map, this]; omega
end Go.Proofs.YtdibgdiiamcmfaaDoor.WritesP
