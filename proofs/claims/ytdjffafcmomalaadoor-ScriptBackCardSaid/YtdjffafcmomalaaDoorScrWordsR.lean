/- What is read of a span's own line is the span: plain. Conditions: the span's numbers are of their kinds and it has 1 to 1048576 cycles. -/
import Derived.Test.YtdjffafcmomalaaDoorScrWords
import Derived.Test.YtdjffafcmomalaaDoorScrReadC
import Derived.Lib.ItoaLen
set_option linter.unusedVariables false
set_option linter.unusedSimpArgs false
namespace Go.Proofs.YtdjffafcmomalaaDoor.Scr
open Go Go.RowKit
open Go.Proofs.YtdjffafcmomalaaDoorW.PrintWords Go.Proofs.YtdjffafcmomalaaDoor.PScr

/-! ### Decimal digits -/
theorem dec_digits : ∀ u : Nat, ∀ x ∈ Lib.decDigits u, 48 ≤ x.toNat ∧ x.toNat ≤ 57 := by
  intro u
  induction u using Nat.strongRecOn with
  | _ u ih =>
    intro x hx
    rw [Lib.decDigits] at hx
    by_cases h : u < 10
    · rw [dif_pos h] at hx
      obtain rfl := List.mem_singleton.1 hx
      rw [UInt8.toNat_ofNat_of_lt' (by simp [UInt8.size]; omega)]
      omega
    · rw [dif_neg h] at hx
      rcases List.mem_append.1 hx with hx | hx
      · exact ih (u / 10) (by omega) x hx
      · obtain rfl := List.mem_singleton.1 hx
        rw [UInt8.toNat_ofNat_of_lt' (by simp [UInt8.size]; omega)]
        omega
theorem dec_ne (u : Nat) : Lib.decDigits u ≠ [] := by
  rw [Lib.decDigits]
  split <;> simp
theorem parse_one (acc d : Nat) (r : List UInt8) (ha : acc < 100000000000000000) (hd : d < 10) : Lib.parseUint10 acc (UInt8.ofNat (48 + d) :: r) = Lib.parseUint10 (acc * 10 + d) r := by
  have e : (UInt8.ofNat (48 + d)).toNat = 48 + d := UInt8.toNat_ofNat_of_lt' (by simp [UInt8.size]; omega)
  rw [Lib.parseUint10, e, if_pos (by omega), if_neg (by omega), if_neg (by omega), show 48 + d - 48 = d by omega]
theorem parse_dec (u : Nat) : ∀ r : List UInt8, u < 100000000000000000 → Lib.parseUint10 0 (Lib.decDigits u ++ r) = Lib.parseUint10 u r := by
  induction u using Nat.strongRecOn with
  | _ u ih =>
    intro r hu
    rw [Lib.decDigits]
    by_cases h : u < 10
    · rw [dif_pos h, List.singleton_append, parse_one 0 u r (by omega) h]
      simp
    · rw [dif_neg h, List.append_assoc, ih (u / 10) (by omega) _ (by omega), List.singleton_append, parse_one (u / 10) (u % 10) r (by omega) (by omega)]
      rw [show u / 10 * 10 + u % 10 = u by omega]
theorem atoi_dec (u : Nat) (hu : u < 100000000000000000) : Lib.atoiAll (Lib.decDigits u) = .ok (u : Int) := by
  have hd := dec_digits u
  have hp := parse_dec u [] hu
  rw [List.append_nil] at hp
  cases hl : Lib.decDigits u with
  | nil => exact (dec_ne u hl).elim
  | cons c r =>
    rw [hl] at hp hd
    have hc := hd c List.mem_cons_self
    unfold Lib.atoiAll Lib.parseMag
    have hcc : ¬ (c.toNat = 43 ∨ c.toNat = 45) := by omega
    simp only [if_neg hcc]
    rw [if_neg (by simp), hp]
    simp only [Lib.parseUint10]
    rw [if_neg (by omega), if_neg (by omega), if_neg (by omega)]
theorem atoi_itoa (n : Int) (h0 : 0 ≤ n) (h1 : n < 100000000000000000) : Lib.atoiAll (Lib.itoa n) = .ok n := by
  obtain ⟨u, rfl⟩ : ∃ u : Nat, n = u := ⟨n.toNat, by omega⟩
  rw [Lib.itoa_nonneg, atoi_dec u (by omega)]

/-! ### Hexadecimal digits -/
theorem hexB (d : Int) (h0 : 0 ≤ d) (h1 : d < 16) : ∀ (r : List UInt8) (acc : Int), numL (UInt8.ofNat (hexD d).toNat :: r) acc = numL r (acc * 16 + d) := by
  intro r acc
  have e : (UInt8.ofNat (hexD d).toNat).toNat = (hexD d).toNat := UInt8.toNat_ofNat_of_lt' (by unfold hexD; simp [UInt8.size]; split <;> omega)
  rw [numL, e]
  unfold hexD
  by_cases h : d < 10
  · rw [if_pos h, if_pos (by omega)]
    congr 1; omega
  · rw [if_neg h, if_neg (by omega), if_pos (by omega)]
    congr 1; omega
theorem hexS4_bytes (n : Int) : (hexS4 n).data.toList = [UInt8.ofNat (hexD (n / 16 / 16 / 16 % 16)).toNat, UInt8.ofNat (hexD (n / 16 / 16 % 16)).toNat, UInt8.ofNat (hexD (n / 16 % 16)).toNat, UInt8.ofNat (hexD (n % 16)).toNat] := rfl
theorem hexS2_bytes (n : Int) : (hexS2 n).data.toList = [UInt8.ofNat (hexD (n / 16 % 16)).toNat, UInt8.ofNat (hexD (n % 16)).toNat] := rfl
theorem numR_hex4 (n : Int) (h0 : 0 ≤ n) (h1 : n < 65536) : numR (hexS4 n) = (n, 0) := by
  unfold numR
  rw [hexS4_size, if_neg (by decide), if_neg (by decide), hexS4_bytes, hexB _ (by omega) (by omega), hexB _ (by omega) (by omega), hexB _ (by omega) (by omega), hexB _ (by omega) (by omega)]
  simp only [numL, Prod.mk.injEq, and_true]
  omega
theorem numR_hex2 (n : Int) (h0 : 0 ≤ n) (h1 : n < 256) : numR (hexS2 n) = (n, 0) := by
  unfold numR
  rw [hexS2_size, if_neg (by decide), if_neg (by decide), hexS2_bytes, hexB _ (by omega) (by omega), hexB _ (by omega) (by omega)]
  simp only [numL, Prod.mk.injEq, and_true]
  omega
theorem hexB_big (d : Int) (h0 : 0 ≤ d) (h1 : d < 16) : 48 ≤ (UInt8.ofNat (hexD d).toNat).toNat := by
  have e : (UInt8.ofNat (hexD d).toNat).toNat = (hexD d).toNat := UInt8.toNat_ofNat_of_lt' (by unfold hexD; simp [UInt8.size]; split <;> omega)
  rw [e]; unfold hexD; split <;> omega
theorem hexS4_big (n : Int) : ∀ x ∈ (hexS4 n).data.toList, 48 ≤ x.toNat := by
  intro x hx
  rw [hexS4_bytes] at hx
  simp only [List.mem_cons, List.not_mem_nil, or_false] at hx
  rcases hx with rfl | rfl | rfl | rfl <;> exact hexB_big _ (by omega) (by omega)
theorem hexS2_big (n : Int) : ∀ x ∈ (hexS2 n).data.toList, 48 ≤ x.toNat := by
  intro x hx
  rw [hexS2_bytes] at hx
  simp only [List.mem_cons, List.not_mem_nil, or_false] at hx
  rcases hx with rfl | rfl <;> exact hexB_big _ (by omega) (by omega)

/-! ### A line's words -/
def kwK (s : S34) : List (List UInt8) := if s.f1 = 0 then [] else [tkeys.data.toList, (hexS4 s.f1).data.toList]
def kwF (b : Bool) (x : ByteArray) : List (List UInt8) := if b then [x.data.toList] else []
def kwB (s : S34) : List (List UInt8) := if s.f9 = 0 then [] else [tbus.data.toList, (hexS2 s.f9).data.toList]
def rest (s : S34) : List (List UInt8) := kwK s ++ (kwF s.f2 ttape ++ (kwF s.f3 tflag ++ (kwF s.f4 tin ++ (kwF s.f5 tout ++ (kwF s.f6 tint ++ (kwF s.f7 tclear ++ (kwF s.f8 twait ++ kwB s)))))))
theorem joinL_snoc : ∀ (ws : List (List UInt8)) (x : List UInt8), ws ≠ [] → joinL (ws ++ [x]) = joinL ws ++ 32 :: x
  | [], x, h => (h rfl).elim
  | [a], x, _ => rfl
  | a :: b :: r, x, _ => by
    have := joinL_snoc (b :: r) x (by simp)
    show a ++ 32 :: joinL (b :: r ++ [x]) = (a ++ 32 :: joinL (b :: r)) ++ 32 :: x
    rw [this]; simp
theorem word_join (b : Bool) (t x : ByteArray) (ws : List (List UInt8)) (hne : ws ≠ []) (h : t.data.toList = joinL ws) : (word b t x).data.toList = joinL (ws ++ kwF b x) := by
  unfold word kwF
  cases b
  · simp [h]
  · simp only [if_true]
    rw [joinL_snoc _ _ hne, ← h]
    simp
theorem two_join (t x y : ByteArray) (ws : List (List UInt8)) (hne : ws ≠ []) (h : t.data.toList = joinL ws) : (t ++ (⟨((32 :: x.data.toList) ++ [32]).toArray⟩ ++ y)).data.toList = joinL (ws ++ [x.data.toList, y.data.toList]) := by
  have : ws ++ [x.data.toList, y.data.toList] = (ws ++ [x.data.toList]) ++ [y.data.toList] := by simp
  rw [this, joinL_snoc _ _ (by simp), joinL_snoc _ _ hne, ← h]
  simp
theorem lineB_join (s : S34) : (lineB s).data.toList = joinL (Lib.itoa s.f0 :: rest s) := by
  have hne : ∀ r, Lib.itoa s.f0 :: r ≠ [] := fun r => by simp
  have h0 : (lineK s).data.toList = joinL (Lib.itoa s.f0 :: kwK s) := by
    unfold lineK kwK
    by_cases c : s.f1 = 0
    · rw [if_pos c, if_pos c]; rfl
    · rw [if_neg c, if_neg c]
      exact two_join ⟨(Lib.itoa s.f0).toArray⟩ tkeys (hexS4 s.f1) [Lib.itoa s.f0] (by simp) rfl
  have h7 : (line7 s).data.toList = joinL (Lib.itoa s.f0 :: (((((((kwK s ++ kwF s.f2 ttape) ++ kwF s.f3 tflag) ++ kwF s.f4 tin) ++ kwF s.f5 tout) ++ kwF s.f6 tint) ++ kwF s.f7 tclear) ++ kwF s.f8 twait)) :=
    word_join _ _ _ _ (hne _) (word_join _ _ _ _ (hne _) (word_join _ _ _ _ (hne _) (word_join _ _ _ _ (hne _) (word_join _ _ _ _ (hne _) (word_join _ _ _ _ (hne _) (word_join _ _ _ _ (hne _) h0))))))
  have e : rest s = (((((((kwK s ++ kwF s.f2 ttape) ++ kwF s.f3 tflag) ++ kwF s.f4 tin) ++ kwF s.f5 tout) ++ kwF s.f6 tint) ++ kwF s.f7 tclear) ++ kwF s.f8 twait) ++ kwB s := by simp [rest]
  rw [e]
  unfold lineB kwB
  by_cases c : s.f9 = 0
  · rw [if_pos c, if_pos c, List.append_nil]; exact h7
  · rw [if_neg c, if_neg c]
    exact two_join (line7 s) tbus (hexS2 s.f9) _ (hne _) h7
theorem kwF_big (b : Bool) (x : ByteArray) (hx : ∀ c ∈ x.data.toList, 48 ≤ c.toNat) : ∀ a ∈ kwF b x, ∀ c ∈ a, 48 ≤ c.toNat := by
  intro a ha
  unfold kwF at ha
  cases b
  · simp at ha
  · simp only [if_true, List.mem_singleton] at ha
    subst ha; exact hx
theorem words_big (s : S34) (h0 : 0 ≤ s.f0) : ∀ a ∈ Lib.itoa s.f0 :: rest s, ∀ c ∈ a, 48 ≤ c.toNat := by
  intro a ha
  rcases List.mem_cons.1 ha with rfl | ha
  · intro c hc
    obtain ⟨u, hu⟩ : ∃ u : Nat, s.f0 = u := ⟨s.f0.toNat, by omega⟩
    rw [hu, Lib.itoa_nonneg] at hc
    exact (dec_digits u c hc).1
  unfold rest at ha
  rcases List.mem_append.1 ha with ha | ha
  · unfold kwK at ha
    split at ha
    · simp at ha
    · simp only [List.mem_cons, List.not_mem_nil, or_false] at ha
      rcases ha with rfl | rfl
      · decide
      · exact hexS4_big _
  rcases List.mem_append.1 ha with ha | ha
  · exact kwF_big _ _ (by decide) a ha
  rcases List.mem_append.1 ha with ha | ha
  · exact kwF_big _ _ (by decide) a ha
  rcases List.mem_append.1 ha with ha | ha
  · exact kwF_big _ _ (by decide) a ha
  rcases List.mem_append.1 ha with ha | ha
  · exact kwF_big _ _ (by decide) a ha
  rcases List.mem_append.1 ha with ha | ha
  · exact kwF_big _ _ (by decide) a ha
  rcases List.mem_append.1 ha with ha | ha
  · exact kwF_big _ _ (by decide) a ha
  rcases List.mem_append.1 ha with ha | ha
  · exact kwF_big _ _ (by decide) a ha
  unfold kwB at ha
  split at ha
  · simp at ha
  · simp only [List.mem_cons, List.not_mem_nil, or_false] at ha
    rcases ha with rfl | rfl
    · decide
    · exact hexS2_big _
theorem line_words (s : S34) (h0 : 0 ≤ s.f0) : wordsOf (lineB s) = (Lib.itoa s.f0 :: rest s).map fun a => ⟨a.toArray⟩ :=
  words_join (lineB s) _ (by simp) (fun a ha x hx e => by have := words_big s h0 a ha x hx; subst e; revert this; decide) (lineB_join s)
theorem joinL_no10 : ∀ (ws : List (List UInt8)), (∀ a ∈ ws, ∀ c ∈ a, 48 ≤ c.toNat) → ∀ x ∈ joinL ws, x ≠ 10
  | [], _, x, hx => by cases hx
  | [a], h, x, hx => by
    have := h a List.mem_cons_self x hx
    intro e; subst e; revert this; decide
  | a :: b :: r, h, x, hx => by
    have hx' : x ∈ a ++ 32 :: joinL (b :: r) := hx
    rcases List.mem_append.1 hx' with hx | hx
    · have := h a List.mem_cons_self x hx
      intro e; subst e; revert this; decide
    · rcases List.mem_cons.1 hx with rfl | hx
      · decide
      · exact joinL_no10 (b :: r) (fun a ha => h a (List.mem_cons_of_mem _ ha)) x hx
theorem line_no10 (s : S34) (h0 : 0 ≤ s.f0) : ∀ x ∈ (lineB s).data.toList, x ≠ 10 := by
  rw [lineB_join]
  exact joinL_no10 _ (words_big s h0)

/-! ### The loop over the words -/
abbrev bt (a : List UInt8) : ByteArray := ⟨a.toArray⟩
theorem loop_keys (s : S34) (n : Int) (h0 : 0 ≤ n) (h1 : n < 65536) (r : List ByteArray) : loopW s (bt tkeys.data.toList :: bt (hexS4 n).data.toList :: r) = loopW { s with f1 := n } r := by
  have e : bt (hexS4 n).data.toList = hexS4 n := by simp [bt]
  rw [e]
  refine (loopW_keys s (hexS4 n) r).trans ?_
  rw [numR_hex4 n h0 h1]
  show loopW { s with f1 := n % 65536 } r = _
  rw [show n % 65536 = n by omega]
theorem loop_bus (s : S34) (n : Int) (h0 : 0 ≤ n) (h1 : n < 256) (r : List ByteArray) : loopW s (bt tbus.data.toList :: bt (hexS2 n).data.toList :: r) = loopW { s with f9 := n } r := by
  have e : bt (hexS2 n).data.toList = hexS2 n := by simp [bt]
  rw [e]
  refine (loopW_bus s (hexS2 n) r).trans ?_
  rw [numR_hex2 n h0 h1]
  show loopW { s with f9 := n % 256 } r = _
  rw [show n % 256 = n by omega]
theorem loop_flag (s s' : S34) (b : Bool) (x : ByteArray) (h1 : x ≠ tkeys) (h2 : x ≠ tbus) (hs : (if b then setF s x else s) = s') (r : List ByteArray) : loopW s ((kwF b x).map bt ++ r) = loopW s' r := by
  subst hs
  unfold kwF
  cases b
  · rfl
  · exact loopW_other s x r h1 h2
theorem loop_rest (s : S34) (hk : 0 ≤ s.f1 ∧ s.f1 < 65536) (hb : 0 ≤ s.f9 ∧ s.f9 < 256) : loopW (zero34 s.f0) ((rest s).map bt) = (s, true) := by
  obtain ⟨f0, f1, f2, f3, f4, f5, f6, f7, f8, f9⟩ := s
  unfold rest
  simp only [List.map_append] at *
  have hK : ∀ r, loopW (zero34 f0) ((kwK ⟨f0, f1, f2, f3, f4, f5, f6, f7, f8, f9⟩).map bt ++ r) = loopW ⟨f0, f1, false, false, false, false, false, false, false, 0⟩ r := by
    intro r
    unfold kwK
    by_cases c : f1 = 0
    · rw [if_pos c]; subst c; rfl
    · rw [if_neg c]
      exact loop_keys (zero34 f0) f1 hk.1 hk.2 r
  rw [hK]
  rw [loop_flag _ ⟨f0, f1, f2, false, false, false, false, false, false, 0⟩ f2 ttape (by decide) (by decide) (by cases f2 <;> simp [setF, sf])]
  rw [loop_flag _ ⟨f0, f1, f2, f3, false, false, false, false, false, 0⟩ f3 tflag (by decide) (by decide) (by cases f3 <;> simp [setF, sf])]
  rw [loop_flag _ ⟨f0, f1, f2, f3, f4, false, false, false, false, 0⟩ f4 tin (by decide) (by decide) (by cases f4 <;> simp [setF, sf])]
  rw [loop_flag _ ⟨f0, f1, f2, f3, f4, f5, false, false, false, 0⟩ f5 tout (by decide) (by decide) (by cases f5 <;> simp [setF, sf])]
  rw [loop_flag _ ⟨f0, f1, f2, f3, f4, f5, f6, false, false, 0⟩ f6 tint (by decide) (by decide) (by cases f6 <;> simp [setF, sf])]
  rw [loop_flag _ ⟨f0, f1, f2, f3, f4, f5, f6, f7, false, 0⟩ f7 tclear (by decide) (by decide) (by cases f7 <;> simp [setF, sf])]
  rw [loop_flag _ ⟨f0, f1, f2, f3, f4, f5, f6, f7, f8, 0⟩ f8 twait (by decide) (by decide) (by cases f8 <;> simp [setF, sf])]
  unfold kwB
  by_cases c : f9 = 0
  · rw [if_pos c]; subst c; rfl
  · rw [if_neg c]
    have := loop_bus (⟨f0, f1, f2, f3, f4, f5, f6, f7, f8, 0⟩ : S34) f9 hb.1 hb.2 []
    exact this
/-- What is read of a span's own line is the span. -/
theorem read_line (s : S34) (hk : okS s = true) (h0 : 1 ≤ s.f0) (h1 : s.f0 ≤ 1048576) : readR (lineB s) = (s, true) := by
  simp only [okS, Bool.and_eq_true, decide_eq_true_eq] at hk
  have hw := line_words s (by omega)
  have hl := loop_rest s ⟨hk.1.1.1.2, hk.1.1.2⟩ ⟨hk.1.2, hk.2⟩
  unfold readR
  rw [hw]
  simp only [List.map_cons, List.headD_cons, List.tail_cons]
  rw [atoi_itoa s.f0 (by omega) (by omega)]
  simp only
  rw [if_neg (by omega), if_neg (by omega)]
  have hl' : loopW (zero34 s.f0) ((rest s).map fun a => (⟨a.toArray⟩ : ByteArray)) = (s, true) := hl
  rw [hl']
  exact congrArg (Prod.mk s) ((MapKept.bytes_beq _ _).2 rfl)
end Go.Proofs.YtdjffafcmomalaaDoor.Scr
