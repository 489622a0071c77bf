/- The plain law of vesperlaw12.TapeNear: waves that are a little longer or shorter are read the same; a bit of a byte that is another one is told. -/
import Derived.Test.YtdibgdiiamcmfaaDoorTapePlain
import Derived.Test.YtdibgdiiamcmfaaDoorPTapex6
set_option linter.unusedVariables false
set_option linter.unusedSimpArgs false
namespace Go.Proofs.YtdibgdiiamcmfaaDoor.NearP
open Go.RowKit
open Go.Proofs.YtdibgdiiamcmfaaDoorW.PrintWords
open Go.Proofs.YtdibgdiiamcmfaaDoor.PTape Go.Proofs.YtdibgdiiamcmfaaDoor.Reader Go.Proofs.YtdibgdiiamcmfaaDoor.Write Go.Proofs.YtdibgdiiamcmfaaDoor.Plain
open Go.Proofs.YtdibgdiiamcmfaaDoor.Bits (tenOf bitsOf odds bits_len)

theorem awake_ok (k : Nat) (h : 30 ≤ k) : vesperlaw12_awake.f k = some true :=
  at_rounds vesperlaw12_awake.mono h (by decide +kernel)

theorem w64 (x : Int) (h : -1000000000000 ≤ x) (h2 : x ≤ 1000000000000) : wrap64 x = x := by unfold wrap64; omega
theorem and_range (x m : Int) (h0 : 0 ≤ m) (h1 : m ≤ 1048575) : 0 ≤ bits .and .i64 x m ∧ bits .and .i64 x m ≤ m := by
  have hle : (BitVec.ofInt 64 x &&& BitVec.ofInt 64 m).toNat ≤ (BitVec.ofInt 64 m).toNat := by rw [BitVec.toNat_and]; exact Nat.and_le_right
  have hm : ((BitVec.ofInt 64 m).toNat : Int) = m := by rw [BitVec.toNat_ofInt]; omega
  have e : bits .and .i64 x m = IntKind.i64.wrap ((BitVec.ofInt 64 x &&& BitVec.ofInt 64 m).toNat : Int) := rfl
  have hw : IntKind.i64.wrap ((BitVec.ofInt 64 x &&& BitVec.ofInt 64 m).toNat : Int) = ((BitVec.ofInt 64 x &&& BitVec.ofInt 64 m).toNat : Int) := IntWalk.i64_in _ (by omega)
  rw [e, hw]
  omega

/-- A wave that is a little off. -/
def Near (x : S37) (b : Bool) : Prop := if b then 124 ≤ x.f0 ∧ x.f0 ≤ 155 ∧ 125 ≤ x.f1 ∧ x.f1 ≤ 140 else 40 ≤ x.f0 ∧ x.f0 ≤ 71 ∧ 41 ≤ x.f1 ∧ x.f1 ≤ 56
theorem near_bit {x : S37} {b : Bool} (h : Near x b) : bitVal x = some b := by
  cases b
  · simp only [Near, Bool.false_eq_true, if_false] at h
    simp only [bitVal]
    rw [if_neg (by omega), if_neg (by omega), if_neg (by omega), if_neg (by omega), if_neg (by omega), if_neg (by omega)]
    simp only [Option.some.injEq, decide_eq_false_iff_not]; omega
  · simp only [Near, if_true] at h
    simp only [bitVal]
    rw [if_neg (by omega), if_neg (by omega), if_neg (by omega), if_neg (by omega), if_neg (by omega), if_neg (by omega)]
    simp only [Option.some.injEq, decide_eq_true_eq]; omega
theorem near_wave (b : Bool) : Near (waveS b) b := by cases b <;> simp [Near, waveS, half]
theorem near_sum {x : S37} {b : Bool} (h : Near x b) : (wrap64 (x.f0 + x.f1) > 195) ↔ b = true := by
  cases b
  · simp only [Near, Bool.false_eq_true, if_false] at h; rw [w64 _ (by omega) (by omega)]; simp; omega
  · simp only [Near, if_true] at h; rw [w64 _ (by omega) (by omega)]; simp; omega

def Nears (L : List S37) (B : List Bool) : Prop := L.length = B.length ∧ ∀ (i : Nat) (x : S37) (b : Bool), L[i]? = some x → B[i]? = some b → Near x b
theorem nears_is {L : List S37} {B : List Bool} (h : Nears L B) : Is L B := by
  unfold Is
  refine List.ext_getElem (by simp [h.1]) fun i h1 h2 => ?_
  simp only [List.length_map] at h1 h2
  rw [List.getElem_map, List.getElem_map]
  exact near_bit (h.2 i _ _ (List.getElem?_eq_getElem h1) (List.getElem?_eq_getElem h2))
theorem nears_set {L : List S37} {B : List Bool} (h : Nears L B) (i : Nat) (y : S37) (c : Bool) (hy : Near y c) : Nears (L.set i y) (B.set i c) := by
  refine ⟨by simp [h.1], fun j x b hx hb => ?_⟩
  by_cases e : i = j
  · subst e
    rw [List.getElem?_set] at hx hb
    simp only [if_true] at hx hb
    split at hx
    · split at hb
      · cases hx; cases hb; exact hy
      · cases hb
    · cases hx
  · rw [List.getElem?_set_ne e] at hx hb
    exact h.2 j x b hx hb
theorem nears_set_same {L : List S37} {B : List Bool} (h : Nears L B) (i : Nat) (y : S37) (c : Bool) (hc : B[i]? = some c) (hy : Near y c) : Nears (L.set i y) B := by
  have := nears_set h i y c hy
  have e : B.set i c = B := by
    obtain ⟨hi, e⟩ := List.getElem?_eq_some_iff.mp hc
    rw [← e]; exact List.set_getElem_self hi
  rwa [e] at this

section
variable {l0 : List Int} (hb : ∀ x ∈ l0, 0 ≤ x ∧ x < 256) (hl0 : 0 < l0.length) (hl1 : l0.length ≤ 1000)

theorem read_all (L : List S37) (h : Nears L (wavesOf 3 l0)) (hb : ∀ x ∈ l0, 0 ≤ x ∧ x < 256) (hl1 : l0.length ≤ 1000) : tape_Read.f L (l0.length : Int) = some (l0, 0, 0) := by
  have hi := nears_is h
  have := readM_ok l0 L 0 3 0 [] [] hb (by
    rw [List.drop_zero, List.append_nil]
    exact hi)
  unfold tape_Read.f
  rw [if_neg (by omega), if_neg (by omega), Int.toNat_natCast]
  rw [Nat.add_zero] at this
  rw [this]
  by_cases e : l0 = []
  · subst e; simp [readM]
  · rw [if_neg e]; simp [readM]

theorem split_waves (q : Nat) (hq : q < l0.length) : wavesOf 3 l0 = List.replicate 3 false ++ ((l0.take q).flatMap tenOf ++ (true :: (bitsOf l0[q] ++ [odds (bitsOf l0[q])]) ++ (l0.drop (q + 1)).flatMap tenOf)) := by
  have e : l0 = l0.take q ++ l0[q] :: l0.drop (q + 1) := by rw [← List.drop_eq_getElem_cons hq, List.take_append_drop]
  have e2 : l0.flatMap tenOf = (l0.take q).flatMap tenOf ++ (tenOf l0[q] ++ (l0.drop (q + 1)).flatMap tenOf) := by
    conv => lhs; rw [e]
    rw [List.flatMap_append, List.flatMap_cons]
  show List.replicate 3 false ++ l0.flatMap tenOf = _
  rw [e2]
  simp [tenOf]

theorem flip_get (q j : Nat) (hq : q < l0.length) (hj : j < 9) (b : Bool) (hbit : (wavesOf 3 l0)[4 + 10 * q + j]? = some b) (cs : List Bool) (hcs : cs = bitsOf l0[q] ++ [odds (bitsOf l0[q])]) (hl : j < cs.length) :
    b = cs[j] ∧ (wavesOf 3 l0).set (4 + 10 * q + j) (!b) = List.replicate 3 false ++ ((l0.take q).flatMap tenOf ++ (true :: cs.set j (!cs[j]) ++ (l0.drop (q + 1)).flatMap tenOf)) := by
  rw [split_waves q hq, ← hcs] at hbit ⊢
  have h10 : ((l0.take q).flatMap tenOf).length = 10 * q := by rw [flat_len, List.length_take]; omega
  have hb1 : b = cs[j] := by
    rw [List.getElem?_append_right (by simp; omega), List.getElem?_append_right (by rw [h10]; simp; omega), h10] at hbit
    rw [show 4 + 10 * q + j - (List.replicate 3 false).length - 10 * q = j + 1 by simp; omega, List.cons_append, List.getElem?_cons_succ, List.getElem?_append_left hl, List.getElem?_eq_getElem hl] at hbit
    exact (Option.some.inj hbit).symm
  refine ⟨hb1, ?_⟩
  rw [hb1, List.set_append_right _ _ (by simp; omega), List.set_append_right _ _ (by rw [h10]; simp; omega), h10]
  rw [show 4 + 10 * q + j - (List.replicate 3 false).length - 10 * q = j + 1 by simp; omega, List.cons_append, List.set_cons_succ, List.set_append_left _ _ hl, List.cons_append]

theorem read_odd (L : List S37) (h : Nears L (wavesOf 3 l0)) (q j : Nat) (hq : q < l0.length) (hj : j < 9) (b : Bool) (hbit : (wavesOf 3 l0)[4 + 10 * q + j]? = some b) (hb : ∀ x ∈ l0, 0 ≤ x ∧ x < 256) (hl1 : l0.length ≤ 1000) :
    tape_Read.f (L.set (4 + 10 * q + j) (waveS (!b))) (l0.length : Int) = some ([], 121, ((3 + 10 * q + 9 : Nat) : Int)) := by
  have hcl : j < (bitsOf l0[q] ++ [odds (bitsOf l0[q])]).length := by rw [show (bitsOf l0[q] ++ [odds (bitsOf l0[q])]).length = 9 by simp [bits_len]]; exact hj
  obtain ⟨_, hset⟩ := flip_get q j hq hj b hbit _ rfl hcl
  have hi := nears_is (nears_set h (4 + 10 * q + j) _ _ (near_wave (!b)))
  rw [hset] at hi
  generalize L.set (4 + 10 * q + j) (waveS (!b)) = M at hi
  have hx := hb l0[q] (List.getElem_mem hq)
  unfold tape_Read.f
  rw [if_neg (by omega), if_neg (by omega), Int.toNat_natCast]
  have hk : (l0.take q).length = q := by rw [List.length_take]; omega
  have h10 : ((l0.take q).flatMap tenOf).length = 10 * q := by rw [flat_len, hk]
  obtain ⟨d, hlen⟩ : ∃ d, l0.length = q + (d + 1) := ⟨l0.length - q - 1, by omega⟩
  have h1 := readM_ok (l0.take q) M 0 3 (d + 1) [] _ (fun x hx => hb x (List.mem_of_mem_take hx)) (by rw [List.drop_zero]; exact hi)
  rw [hk] at h1
  have hd : Is (M.drop (3 + 10 * q)) (List.replicate 0 false ++ (true :: ((bitsOf l0[q] ++ [odds (bitsOf l0[q])]).set j (!(bitsOf l0[q] ++ [odds (bitsOf l0[q])])[j]) ++ (l0.drop (q + 1)).flatMap tenOf))) := by
    have := is_drop hi (3 + 10 * q)
    rw [← List.append_assoc, List.drop_left' (by rw [List.length_append, h10, List.length_replicate])] at this
    simpa using this
  have hrd : ∀ (i z : Nat), i + z = 3 + 10 * q → Is (M.drop i) (List.replicate z false ++ (true :: ((bitsOf l0[q] ++ [odds (bitsOf l0[q])]).set j (!(bitsOf l0[q] ++ [odds (bitsOf l0[q])])[j]) ++ (l0.drop (q + 1)).flatMap tenOf))) → ∀ acc, readM M (d + 1) i acc = .error (121, ((3 + 10 * q + 9 : Nat) : Int)) := by
    intro i z e h acc
    have := byteM_odd M i z l0[q] hx.1 hx.2 j hj _ _ rfl hcl h
    simp only [readM, this, e]
  rw [hlen]
  by_cases hq0 : l0.take q = []
  · have hq00 : q = 0 := by have := congrArg List.length hq0; rw [hk] at this; simpa using this
    subst hq00
    have := hrd 0 3 (by omega) (by simpa using hi) []
    rw [Nat.zero_add, this]
  · rw [if_neg hq0] at h1
    have := hrd (0 + 3 + 10 * q) 0 (by omega) (by simpa using hd) ([] ++ l0.take q)
    rw [h1, this]

theorem waves_len : (wavesOf 3 l0).length = 3 + 10 * l0.length := by
  show (List.replicate 3 false ++ l0.flatMap tenOf).length = _
  rw [List.length_append, List.length_replicate, flat_len]

theorem j4_ok (k : Nat) (hk : 30 ≤ k) (x2 : Int) (L : List S37) (h : Nears L (wavesOf 3 l0)) (hb : ∀ x ∈ l0, 0 ≤ x ∧ x < 256) (hl0 : 0 < l0.length) (hl1 : l0.length ≤ 1000) : vesperlaw12_TapeNear.j4 (k + 1) l0 x2 L false = some true := by
  have e9 : wrap64 (9 * (l0.length : Int)) = 9 * (l0.length : Int) := w64 _ (by omega) (by omega)
  have hlen := h.1
  rw [waves_len] at hlen
  obtain ⟨a0, a1⟩ := and_range x2 1048575 (by omega) (by omega)
  have t0 := Int.tmod_nonneg (9 * (l0.length : Int)) a0
  have t1 := Int.tmod_lt_of_pos (bits .and .i64 x2 1048575) (show 0 < 9 * (l0.length : Int) by omega)
  rw [vesperlaw12_TapeNear.j4]
  rw [e9]
  generalize (bits .and .i64 x2 1048575).tmod (9 * (l0.length : Int)) = t at t0 t1 ⊢
  obtain ⟨T, rfl⟩ := Int.eq_ofNat_of_zero_le t0
  have eq : Int.tdiv (T : Int) 9 = ((T / 9 : Nat) : Int) := rfl
  have ej : Int.tmod (T : Int) 9 = ((T % 9 : Nat) : Int) := rfl
  have hq : T / 9 < l0.length := by omega
  have hj : T % 9 < 9 := by omega
  rw [eq, ej]
  generalize T / 9 = q at hq
  generalize T % 9 = j at hj
  clear t0 t1 eq ej
  have en : wrap64 (wrap64 (wrap64 (3 + wrap64 (wrap64 (q : Int) * 10)) + 1) + (j : Int)) = ((4 + 10 * q + j : Nat) : Int) := by
    rw [w64 (q : Int) (by omega) (by omega), w64 ((q : Int) * 10) (by omega) (by omega), w64 (3 + (q : Int) * 10) (by omega) (by omega), w64 (3 + (q : Int) * 10 + 1) (by omega) (by omega), w64 _ (by omega) (by omega)]
    omega
  have em : wrap64 (wrap64 (3 + wrap64 (wrap64 (q : Int) * 10)) + 9) = ((3 + 10 * q + 9 : Nat) : Int) := by
    rw [w64 (q : Int) (by omega) (by omega), w64 ((q : Int) * 10) (by omega) (by omega), w64 (3 + (q : Int) * 10) (by omega) (by omega), w64 _ (by omega) (by omega)]
    omega
  rw [en, em, Int.toNat_natCast]
  have hn : 4 + 10 * q + j < L.length := by omega
  have hnw : 4 + 10 * q + j < (wavesOf 3 l0).length := by rw [waves_len]; omega
  have hrd : rd_T37 L ((4 + 10 * q + j : Nat) : Int) = L[4 + 10 * q + j] := by unfold rd_T37; rw [Int.toNat_natCast, List.getD_eq_getElem?_getD, List.getElem?_eq_getElem hn]; rfl
  have hN := h.2 _ _ _ (List.getElem?_eq_getElem hn) (List.getElem?_eq_getElem hnw)
  have hodd := read_odd L h q j hq hj _ (List.getElem?_eq_getElem hnw) hb hl1
  have hsum := near_sum hN
  rw [hrd, if_neg (by decide), if_neg (by omega), if_pos (by omega), if_pos (by omega)]
  have ha := awake_ok k hk
  cases hbit : (wavesOf 3 l0)[4 + 10 * q + j]
  · rw [hbit] at hodd hsum
    rw [if_neg (by simp [hsum])]
    simp only [waveS, half, Bool.not_false, if_true] at hodd
    rw [hodd, ha]
    simp
  · rw [hbit] at hodd hsum
    rw [if_pos (by simp [hsum])]
    simp only [waveS, half, Bool.not_true, Bool.false_eq_true, if_false] at hodd
    rw [hodd, ha]
    simp

theorem j3_ok (k : Nat) (hk : 30 ≤ k) (x2 : Int) (L : List S37) (h : Nears L (wavesOf 3 l0)) (hb : ∀ x ∈ l0, 0 ≤ x ∧ x < 256) (hl0 : 0 < l0.length) (hl1 : l0.length ≤ 1000) : vesperlaw12_TapeNear.j3 (k + 2) l0 x2 L = some true := by
  rw [vesperlaw12_TapeNear.j3]
  rw [read_all L h hb hl1]
  simp only [Option.bind_some, if_true, bne_self_eq_false]
  exact j4_ok k hk x2 L h hb hl0 hl1

theorem l0_ok (x1 : List Int) (x2 : Int) (hb : ∀ x ∈ l0, 0 ≤ x ∧ x < 256) (hl0 : 0 < l0.length) (hl1 : l0.length ≤ 1000) : ∀ (d i : Nat) (L : List S37), L.length = i + d → Nears L (wavesOf 3 l0) → (∀ (n : Nat) (b : Bool), i ≤ n → (wavesOf 3 l0)[n]? = some b → L[n]? = some (waveS b)) → vesperlaw12_TapeNear.l0 (d + 40) l0 x1 x2 L (i : Int) = some true := by
  intro d
  induction d with
  | zero =>
    intro i L hl h hw
    rw [show 0 + 40 = 39 + 1 by rfl]
    rw [vesperlaw12_TapeNear.l0]
    rw [if_neg (by omega)]
    exact j3_ok 37 (by omega) x2 L h hb hl0 hl1
  | succ d ih =>
    intro i L hl h hw
    have hlw := h.1
    have hlen := waves_len (l0 := l0)
    rw [show d + 1 + 40 = (d + 38 + 2) + 1 by omega]
    rw [vesperlaw12_TapeNear.l0]
    rw [if_pos (by omega)]
    by_cases hx : (i : Int) < (x1.length : Int)
    · rw [if_pos hx, if_pos (by omega), Option.bind_some, Int.toNat_natCast, List.set_set]
      have hi : i < L.length := by omega
      have hiw : i < (wavesOf 3 l0).length := by omega
      have hg := hw i _ (Nat.le_refl _) (List.getElem?_eq_getElem hiw)
      have hrd : rd_T37 L (i : Int) = waveS (wavesOf 3 l0)[i] := by unfold rd_T37; rw [Int.toNat_natCast, List.getD_eq_getElem?_getD, hg]; rfl
      have hrd2 : ∀ y, rd_T37 (L.set i y) (i : Int) = y := fun y => by unfold rd_T37; rw [Int.toNat_natCast, List.getD_eq_getElem?_getD, List.getElem?_set_self hi]; rfl
      simp only [hrd2]
      rw [hrd, show wrap64 ((i : Int) + 1) = ((i + 1 : Nat) : Int) by rw [w64 _ (by omega) (by omega)]; omega]
      rw [show d + 38 + 2 = d + 40 by omega]
      obtain ⟨b0, b1⟩ := and_range (rd x1 (i : Int)) 31 (by omega) (by omega)
      obtain ⟨c0, c1⟩ := and_range (rd x1 (i : Int)) 15 (by omega) (by omega)
      refine ih (i + 1) _ (by rw [List.length_set]; omega) (nears_set_same h i _ _ (List.getElem?_eq_getElem hiw) ?_) ?_
      · generalize bits .and .i64 (rd x1 (i : Int)) 31 = u at b0 b1 ⊢
        generalize bits .and .i64 (rd x1 (i : Int)) 15 = v at c0 c1 ⊢
        generalize (wavesOf 3 l0)[i] = b
        cases b
        · simp only [Near, waveS, half, Bool.false_eq_true, if_false]
          rw [w64 (56 + u) (by omega) (by omega), w64 (56 + u - 16) (by omega) (by omega), w64 (56 - v) (by omega) (by omega)]
          omega
        · simp only [Near, waveS, half, if_true]
          rw [w64 (140 + u) (by omega) (by omega), w64 (140 + u - 16) (by omega) (by omega), w64 (140 - v) (by omega) (by omega)]
          omega
      · intro n b hn hb
        rw [List.getElem?_set_ne (by omega)]
        exact hw n b (by omega) hb
    · rw [if_neg hx]
      exact j3_ok (d + 38) (by omega) x2 L h hb hl0 hl1
end

theorem TapeNear (l0 l1 : List Int) (a2 : Int) (hb : ∀ x ∈ l0, 0 ≤ x ∧ x < 256) : ∃ k, vesperlaw12_TapeNear.f k l0 l1 a2 = some true := by
  have hdead : vesperlaw12_TapeNear.j0 31 l0 l1 a2 true = some true := by
    rw [vesperlaw12_TapeNear.j0]
    rw [if_pos rfl, awake_ok 30 (by omega)]
    rfl
  by_cases h1 : (l0.length : Int) > 1000
  · exact ⟨31, by unfold vesperlaw12_TapeNear.f; rw [if_pos h1]; exact hdead⟩
  · by_cases h0 : l0.length = 0
    · refine ⟨31, ?_⟩
      unfold vesperlaw12_TapeNear.f
      rw [if_neg h1, h0]
      exact hdead
    · have hl0 : 0 < l0.length := by omega
      have hl1 : l0.length ≤ 1000 := by omega
      have hlen := waves_len (l0 := l0)
      have hW : tape_Write.f l0 3 = some ((wavesOf 3 l0).map waveS, 0) := by
        unfold tape_Write.f
        have : l0.all byteB = true := by
          rw [List.all_eq_true]; intro x hx; have := hb x hx; simp [byteB]; omega
        rw [if_pos this, if_neg (by omega), if_neg (by omega), if_neg (by omega)]
      refine ⟨10 * l0.length + 3 + 40 + 2, ?_⟩
      unfold vesperlaw12_TapeNear.f
      rw [if_neg h1, beq_false_of_ne (show (l0.length : Int) ≠ 0 by omega)]
      rw [vesperlaw12_TapeNear.j0]
      rw [if_neg (by decide), hW, Option.bind_some, if_pos rfl]
      rw [vesperlaw12_TapeNear.j1]
      rw [w64 (10 * (l0.length : Int)) (by omega) (by omega), w64 _ (by omega) (by omega)]
      rw [show ((((wavesOf 3 l0).map waveS).length : Int) != 10 * (l0.length : Int) + 3) = false by rw [List.length_map, hlen]; simp; omega]
      rw [if_neg (by decide)]
      refine l0_ok l1 a2 hb hl0 hl1 (10 * l0.length + 3) 0 _ (by rw [List.length_map, hlen]; omega) ⟨by simp, fun i x b hx hbx => ?_⟩ (fun n b _ hbx => by rw [List.getElem?_map, hbx]; rfl)
      rw [List.getElem?_map, hbx] at hx
      cases hx
      exact near_wave b
#print axioms TapeNear
end Go.Proofs.YtdibgdiiamcmfaaDoor.NearP
