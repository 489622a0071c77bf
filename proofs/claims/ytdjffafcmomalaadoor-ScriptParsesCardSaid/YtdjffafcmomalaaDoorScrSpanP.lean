/- vesperref07.Span: what it tells, plain: of a line that is some span's own, the span; of no other one. -/
import Derived.Test.YtdjffafcmomalaaDoorScrM5
import Derived.Test.YtdjffafcmomalaaDoorScrM2
import Derived.Test.YtdjffafcmomalaaDoorPScrx8
set_option linter.unusedVariables false
set_option linter.unusedSimpArgs false
namespace Go.Proofs.YtdjffafcmomalaaDoor.Scr
open Go Go.RowKit
open Go.Proofs.YtdjffafcmomalaaDoorW.PrintWords Go.Proofs.YtdjffafcmomalaaDoor.PScr

/-! ### Words -/
def spl : List UInt8 → List UInt8 → List (List UInt8)
  | cur, [] => [cur]
  | cur, c :: r => if c = 32 then cur :: spl [] r else spl (cur ++ [c]) r
theorem spl_ne : ∀ (r cur : List UInt8), spl cur r ≠ []
  | [], cur => by simp [spl]
  | c :: r, cur => by
    unfold spl
    split
    · simp
    · exact spl_ne r _
theorem spl_join : ∀ (r cur : List UInt8), joinL (spl cur r) = cur ++ r
  | [], cur => by simp [spl, joinL]
  | c :: r, cur => by
    unfold spl
    by_cases h : c = 32
    · rw [if_pos h]
      have ih := spl_join r []
      cases hs : spl [] r with
      | nil => exact (spl_ne r [] hs).elim
      | cons a t =>
        rw [hs] at ih
        show cur ++ 32 :: joinL (a :: t) = _
        rw [ih, h]; rfl
    · rw [if_neg h, spl_join r (cur ++ [c])]; simp
theorem spl_no : ∀ (r cur : List UInt8), (∀ x ∈ cur, x ≠ 32) → ∀ a ∈ spl cur r, ∀ x ∈ a, x ≠ 32
  | [], cur, h, a, ha => by
    simp [spl] at ha
    subst ha; exact h
  | c :: r, cur, h, a, ha => by
    unfold spl at ha
    by_cases hc : c = 32
    · rw [if_pos hc] at ha
      rcases List.mem_cons.1 ha with rfl | ha
      · exact h
      · exact spl_no r [] (by simp) a ha
    · rw [if_neg hc] at ha
      exact spl_no r (cur ++ [c]) (fun x hx => by
        rcases List.mem_append.1 hx with hx | hx
        · exact h x hx
        · rw [List.mem_singleton.1 hx]; exact hc) a ha
theorem words_spl (l : ByteArray) : wordsOf l = (spl [] l.data.toList).map bt :=
  words_join l _ (spl_ne _ _) (spl_no _ _ (by simp)) (by rw [spl_join]; rfl)
theorem bt_at (x : ByteArray) (p : List UInt8) (c : UInt8) (r : List UInt8) (h : x.data.toList = p ++ c :: r) : Go.Proofs.YtdjffafcmomalaaDoorW.PrintWords.bt x (p.length : Int) = (c.toNat : Int) := by
  rw [← rd_bytesOf]
  unfold rd bytesOf
  rw [h, Int.toNat_natCast]
  simp [List.getD_eq_getElem?_getD]
theorem extract_at (x : ByteArray) (a b c : List UInt8) (h : x.data.toList = a ++ (b ++ c)) : x.extract a.length (a ++ b).length = bt b := by
  have e : (x.extract a.length (a ++ b).length).data.toList = b := by
    rw [ByteArray.data_extract, Array.toList_extract, h, List.extract_eq_take_drop]
    simp
  refine Eq.trans ?_ (congrArg (fun l : List UInt8 => (⟨l.toArray⟩ : ByteArray)) e)
  rw [Array.toArray_toList]
theorem words_l0 (x : ByteArray) (hx : x.size ≤ 1000) : ∀ (r a cur : List UInt8) (acc : List ByteArray) (k : Nat), x.data.toList = a ++ (cur ++ r) → r.length < k → acc.length ≤ 1000 →
    acc.length + r.length ≤ 1000 → vesperref07_Words.l0 k x acc (a.length : Int) ((a ++ cur).length : Int) = some (acc ++ (spl cur r).map bt) := by
  intro r
  induction r with
  | nil =>
    intro a cur acc k h hk ha hb
    obtain ⟨k, rfl⟩ : ∃ j, k = j + 1 := ⟨k - 1, by omega⟩
    have hsz : x.size = a.length + cur.length := by
      have := congrArg List.length h
      rw [data_length] at this; simp at this; omega
    rw [vesperref07_Words.l0, if_neg (by simp; omega), if_pos (by omega), if_pos (by omega), if_pos (by omega), Int.toNat_natCast, show x.size = (a ++ cur).length by simp; omega, extract_at x a cur [] (by rw [h])]
    rfl
  | cons c r ih =>
    intro a cur acc k h hk ha hb
    simp only [List.length_cons] at hk hb
    obtain ⟨k, rfl⟩ : ∃ j, k = j + 1 := ⟨k - 1, by omega⟩
    have hsz : x.size = a.length + cur.length + (r.length + 1) := by
      have := congrArg List.length h
      rw [data_length] at this; simp at this; omega
    have hbt := bt_at x (a ++ cur) c r (by rw [h]; simp)
    rw [vesperref07_Words.l0, hbt, if_pos (by simp; omega), if_pos (by omega)]
    have hw : wrap64 (((a ++ cur).length : Int) + 1) = ((a ++ (cur ++ [c])).length : Int) := by rw [w64 (by omega) (by simp; omega)]; simp; omega
    by_cases hc : c = 32
    · subst hc
      have hw2 : wrap64 (((a ++ cur).length : Int) + 1) = ((((a ++ cur) ++ [32]) ++ []).length : Int) := by rw [hw]; simp
      have hw3 : wrap64 (((a ++ cur).length : Int) + 1) = (((a ++ cur) ++ [32]).length : Int) := by rw [hw]; simp
      rw [if_pos (by decide), if_pos (by omega), if_pos (by simp; omega), if_pos (by simp; omega), if_pos (by omega), Int.toNat_natCast, Int.toNat_natCast, extract_at x a cur (32 :: r) (by rw [h])]
      conv => lhs; rw [hw2]
      have := ih ((a ++ cur) ++ [32]) [] (acc ++ [bt cur]) k (by rw [h]; simp) (by omega) (by simp; omega) (by simp; omega)
      rw [List.append_nil] at this ⊢
      rw [this, spl, if_pos rfl]
      simp
    · have : ¬ ((c.toNat : Int) = 32) := fun e => hc (UInt8.toNat_inj.1 (show c.toNat = 32 by omega))
      rw [if_neg this, hw, ih a (cur ++ [c]) acc k (by rw [h]; simp) (by omega) ha (by omega), spl, if_neg hc]
theorem words_f (x : ByteArray) (hx : x.size ≤ 500) (k : Nat) (hk : 600 ≤ k) : vesperref07_Words.f k x = some (wordsOf x) := by
  rw [words_spl]
  have hl := data_length x
  exact words_l0 x (by omega) x.data.toList [] [] [] k rfl (by omega) (by simp) (by simp; omega)

/-! ### decimal -/
def decL : List UInt8 → Int → Int
  | [], n => n
  | c :: r, n => if (c.toNat : Int) < 48 then -1 else if (c.toNat : Int) > 57 then -1 else decL r (10 * n + ((c.toNat : Int) - 48))
theorem decimal_l0 (x : ByteArray) (hx : x.size ≤ 7) : ∀ (r p : List UInt8) (n : Int) (k : Nat), x.data.toList = p ++ r → r.length < k → 0 ≤ n → n < (10 ^ p.length : Nat) → vesperref07_decimal.l0 k x n (p.length : Int) = some (decL r n) := by
  intro r
  induction r with
  | nil =>
    intro p n k h hk h0 h1
    obtain ⟨k, rfl⟩ : ∃ j, k = j + 1 := ⟨k - 1, by omega⟩
    have hsz : x.size = p.length := by
      have := congrArg List.length h
      rw [data_length] at this; simp at this; omega
    rw [vesperref07_decimal.l0, if_neg (by omega)]; rfl
  | cons c r ih =>
    intro p n k h hk h0 h1
    simp only [List.length_cons] at hk
    obtain ⟨k, rfl⟩ : ∃ j, k = j + 1 := ⟨k - 1, by omega⟩
    have hsz : x.size = p.length + (r.length + 1) := by
      have := congrArg List.length h
      rw [data_length] at this; simp at this; omega
    have hp : (10 ^ p.length : Nat) ≤ 10000000 := Nat.le_trans (Nat.pow_le_pow_right (by decide) (show p.length ≤ 7 by omega)) (by decide)
    have hps : (10 ^ (p ++ [c]).length : Nat) = 10 * 10 ^ p.length := by simp [Nat.pow_succ, Nat.mul_comm]
    generalize (10 ^ p.length : Nat) = P at h1 hp hps
    have hbt := bt_at x p c r h
    have hcb : c.toNat < 256 := UInt8.toNat_lt c
    rw [vesperref07_decimal.l0, hbt, if_pos (by omega), if_pos (by omega), decL]
    by_cases c1 : (c.toNat : Int) < 48
    · rw [if_pos c1, if_pos c1]
    rw [if_neg c1, if_neg c1]
    by_cases c2 : (c.toNat : Int) > 57
    · rw [if_pos c2, if_pos c2]
    rw [if_neg c2, if_neg c2, show wrap64 (10 * n) = 10 * n from w64 (by omega) (by omega), show ((c.toNat : Int) - 48) % 256 = (c.toNat : Int) - 48 by omega, w64 (by omega) (by omega), w64 (by omega) (by omega)]
    have := ih (p ++ [c]) (10 * n + ((c.toNat : Int) - 48)) k (by rw [h]; simp) (by omega) (by omega) (by rw [hps]; omega)
    rw [show ((p ++ [c]).length : Int) = (p.length : Int) + 1 by simp] at this
    exact this
def decR (x : ByteArray) : Int := if x.size < 1 ∨ x.size > 7 then -1 else decL x.data.toList 0
theorem decimal_f (x : ByteArray) (k : Nat) (hk : 20 ≤ k) : vesperref07_decimal.f k x = some (decR x) := by
  unfold vesperref07_decimal.f decR
  obtain ⟨k, rfl⟩ : ∃ j, k = j + 1 := ⟨k - 1, by omega⟩
  by_cases c1 : x.size < 1
  · rw [if_pos (by omega), if_pos (.inl c1), vesperref07_decimal.j0, if_pos rfl]
  · rw [if_neg (by omega)]
    by_cases c2 : x.size > 7
    · rw [if_pos (.inr c2), decide_eq_true (by omega), vesperref07_decimal.j0, if_pos rfl]
    · have hl := data_length x
      rw [if_neg (by omega), decide_eq_false (by omega), vesperref07_decimal.j0, if_neg (by decide)]
      exact decimal_l0 x (by omega) x.data.toList [] 0 k rfl (by omega) (Int.le_refl _) (by decide)
theorem dec_one (n : Int) (d : Nat) (r : List UInt8) (hd : d < 10) : decL (UInt8.ofNat (48 + d) :: r) n = decL r (10 * n + d) := by
  have e : (UInt8.ofNat (48 + d)).toNat = 48 + d := UInt8.toNat_ofNat_of_lt' (by simp [UInt8.size]; omega)
  rw [decL, e, if_neg (by omega), if_neg (by omega)]
  congr 1; omega
theorem dec_dec (u : Nat) : ∀ r : List UInt8, decL (Lib.decDigits u ++ r) 0 = decL r (u : Int) := by
  induction u using Nat.strongRecOn with
  | _ u ih =>
    intro r
    rw [Lib.decDigits]
    by_cases h : u < 10
    · rw [dif_pos h, List.singleton_append, dec_one 0 u r h]
      simp
    · rw [dif_neg h, List.append_assoc, ih (u / 10) (by omega), List.singleton_append, dec_one _ (u % 10) r (by omega)]
      congr 1; omega
theorem digits_le : ∀ (k u : Nat), u < 10 ^ (k + 1) → Lib.nDigits u ≤ k + 1
  | 0, u, h => by rw [Lib.nDigits_small (by simpa using h)]; omega
  | k + 1, u, h => by
    by_cases hu : u < 10
    · rw [Lib.nDigits_small hu]; omega
    · rw [Lib.nDigits_big hu]
      have := digits_le k (u / 10) (by rw [Nat.pow_succ] at h; omega)
      omega
theorem decR_itoa (n : Int) (h0 : 1 ≤ n) (h1 : n ≤ 1048576) : decR (bt (Lib.itoa n)) = n := by
  obtain ⟨u, rfl⟩ : ∃ u : Nat, n = u := ⟨n.toNat, by omega⟩
  rw [Lib.itoa_nonneg]
  have hl : (Lib.decDigits u).length ≤ 7 := by
    rw [Lib.decDigits_length]
    exact digits_le 6 u (by omega)
  have h2 : 0 < (Lib.decDigits u).length := List.length_pos_iff.2 (dec_ne u)
  have hs : (bt (Lib.decDigits u)).size = (Lib.decDigits u).length := by
    show (Lib.decDigits u).toArray.size = _
    simp
  unfold decR
  rw [if_neg (by omega)]
  have := dec_dec u []
  rw [List.append_nil] at this
  exact this

/-! ### Number, hex -/
theorem number_l0 (x : ByteArray) (hx : x.size ≤ 8) : ∀ (r p : List UInt8) (n : Int) (k : Nat), x.data.toList = p ++ r → 2 * r.length < k → 0 ≤ n → n < (16 ^ p.length : Nat) → vesperref01_Number.l0 k x n (p.length : Int) = some (match numL r n with | some m => (m, 0) | none => (0, 1)) := by
  intro r
  induction r with
  | nil =>
    intro p n k h hk h0 h1
    obtain ⟨k, rfl⟩ : ∃ j, k = j + 1 := ⟨k - 1, by omega⟩
    have hsz : x.size = p.length := by
      have := congrArg List.length h
      rw [data_length] at this; simp at this; omega
    rw [vesperref01_Number.l0, if_neg (by omega)]; rfl
  | cons c r ih =>
    intro p n k h hk h0 h1
    simp only [List.length_cons] at hk
    obtain ⟨k, rfl⟩ : ∃ j, k = j + 2 := ⟨k - 2, by omega⟩
    have hsz : x.size = p.length + (r.length + 1) := by
      have := congrArg List.length h
      rw [data_length] at this; simp at this; omega
    have hp : (16 ^ p.length : Nat) ≤ 4294967296 := Nat.le_trans (Nat.pow_le_pow_right (by decide) (show p.length ≤ 8 by omega)) (by decide)
    have hps : (16 ^ (p ++ [c]).length : Nat) = 16 * 16 ^ p.length := by simp [Nat.pow_succ, Nat.mul_comm]
    generalize (16 ^ p.length : Nat) = P at h1 hp hps
    have hbt := bt_at x p c r h
    have hcb : c.toNat < 256 := UInt8.toNat_lt c
    have step : vesperref01_Number.l0 (k + 2) x n (p.length : Int) = vesperref01_Number.j2 (k + 1) x n (p.length : Int) (c.toNat : Int) (decide (48 ≤ c.toNat ∧ c.toNat ≤ 57)) := by
      rw [vesperref01_Number.l0, hbt, if_pos (by omega), if_pos (by omega)]
      by_cases c1 : (c.toNat : Int) ≥ 48
      · rw [if_pos c1]
        congr 1
        exact decide_eq_decide.2 ⟨fun h => ⟨by omega, by omega⟩, fun h => by omega⟩
      · rw [if_neg c1, decide_eq_false (by omega)]
    rw [step, vesperref01_Number.j2, numL]
    by_cases c1 : 48 ≤ c.toNat ∧ c.toNat ≤ 57
    · rw [decide_eq_true c1, if_pos rfl, if_pos c1, show wrap64 (16 * n) = 16 * n from w64 (by omega) (by omega), show ((c.toNat : Int) - 48) % 256 = (c.toNat : Int) - 48 by omega, w64 (by omega) (by omega), w64 (by omega) (by omega)]
      have := ih (p ++ [c]) (16 * n + ((c.toNat : Int) - 48)) k (by rw [h]; simp) (by omega) (by omega) (by rw [hps]; omega)
      rw [show ((p ++ [c]).length : Int) = (p.length : Int) + 1 by simp] at this
      rw [this, Int.mul_comm]
    · rw [decide_eq_false c1, if_neg (by decide), if_neg c1]
      by_cases c2 : 97 ≤ c.toNat ∧ c.toNat ≤ 102
      · rw [if_pos c2, if_pos (by omega), if_pos (by omega), show wrap64 (16 * n) = 16 * n from w64 (by omega) (by omega), show ((c.toNat : Int) - 97) % 256 = (c.toNat : Int) - 97 by omega, show wrap64 (16 * n + ((c.toNat : Int) - 97)) = 16 * n + ((c.toNat : Int) - 97) from w64 (by omega) (by omega), w64 (by omega) (by omega), w64 (by omega) (by omega)]
        have := ih (p ++ [c]) (16 * n + ((c.toNat : Int) - 97) + 10) k (by rw [h]; simp) (by omega) (by omega) (by rw [hps]; omega)
        rw [show ((p ++ [c]).length : Int) = (p.length : Int) + 1 by simp] at this
        rw [this, show 16 * n + ((c.toNat : Int) - 97) + 10 = n * 16 + ((c.toNat : Int) - 87) by omega]
      · rw [if_neg c2]
        by_cases c3 : (c.toNat : Int) ≥ 97
        · rw [if_pos c3, if_neg (by omega)]
        · rw [if_neg c3]
theorem rnumber_f (x : ByteArray) (k : Nat) (hk : 30 ≤ k) : vesperref01_Number.f k x = some (numR x) := by
  unfold vesperref01_Number.f numR
  obtain ⟨k, rfl⟩ : ∃ j, k = j + 1 := ⟨k - 1, by omega⟩
  by_cases c1 : x.size < 1
  · rw [if_pos (by omega), if_pos c1, vesperref01_Number.j0, if_pos rfl]
  · rw [if_neg (by omega), if_neg c1]
    by_cases c2 : 8 < x.size
    · rw [if_pos c2, decide_eq_true (by omega), vesperref01_Number.j0, if_pos rfl]
    · have hl := data_length x
      rw [if_neg c2, decide_eq_false (by omega), vesperref01_Number.j0, if_neg (by decide)]
      exact number_l0 x (by omega) x.data.toList [] 0 k rfl (by omega) (Int.le_refl _) (by decide)
def hexY (y : ByteArray) : Int := if (numR y).2 = 0 then (if (numR y).1 > 65535 then 0 else (numR y).1) else 0
theorem hexY_bd (y : ByteArray) : 0 ≤ hexY y ∧ hexY y ≤ 65535 := by
  have := numR_bd y
  unfold hexY
  split
  · split <;> omega
  · omega
def hexOf : List ByteArray → Int
  | [] => 0
  | y :: _ => hexY y
theorem hexOf_bd (r : List ByteArray) : 0 ≤ hexOf r ∧ hexOf r ≤ 65535 := by
  cases r with
  | nil => exact ⟨Int.le_refl _, by decide⟩
  | cons y r => exact hexY_bd y
theorem rdOf_at (p : List ByteArray) (y : ByteArray) (r : List ByteArray) : rdOf ByteArray.empty (p ++ y :: r) (p.length : Int) = y := by
  unfold rdOf
  rw [Int.toNat_natCast]
  simp [List.getD_eq_getElem?_getD]
theorem hex_f (p r : List ByteArray) (k : Nat) (hk : 30 ≤ k) : vesperref07_hex.f k (p ++ r) (p.length : Int) = some (hexOf r) := by
  unfold vesperref07_hex.f
  cases r with
  | nil => rw [if_pos (by simp)]; rfl
  | cons y r =>
    rw [if_neg (by simp; omega), if_pos (by omega), if_pos (by simp; omega), rdOf_at, rnumber_f y k hk, Option.bind_some]
    show _ = some (hexY y)
    unfold hexY
    split
    · split <;> rfl
    · rfl
end Go.Proofs.YtdjffafcmomalaaDoor.Scr
