/- The plain law of vesperlaw12.TapeBack: what is written is read, what is played is heard. -/
import Derived.Test.YtdibgdiiamcmfaaDoorTapePlain
import Derived.Test.YtdibgdiiamcmfaaDoorPTapex12
set_option linter.unusedVariables false
set_option linter.unusedSimpArgs false
namespace Go.Proofs.YtdibgdiiamcmfaaDoor.BackP
open Go.RowKit
open Go.Proofs.YtdibgdiiamcmfaaDoorW.PrintWords
open Go.Proofs.YtdibgdiiamcmfaaDoor.PTape Go.Proofs.YtdibgdiiamcmfaaDoor.Reader Go.Proofs.YtdibgdiiamcmfaaDoor.Write Go.Proofs.YtdibgdiiamcmfaaDoor.Plain
open Go.Proofs.YtdibgdiiamcmfaaDoor.Bits (tenOf bitsOf odds bits_len)

theorem awake_ok (k : Nat) (h : 30 ≤ k) : vesperlaw12_awake.f k = some true :=
  at_rounds vesperlaw12_awake.mono h (by decide +kernel)

theorem w64 (x : Int) (h : -1000000000000 ≤ x) (h2 : x ≤ 1000000000000) : wrap64 x = x := by unfold wrap64; omega
theorem and_range (x m : Int) (h0 : 0 ≤ m) (h1 : m ≤ 1048575) : 0 ≤ bits .and .i64 x m ∧ bits .and .i64 x m ≤ m := by
  have hle : (BitVec.ofInt 64 x &&& BitVec.ofInt 64 m).toNat ≤ (BitVec.ofInt 64 m).toNat := by rw [BitVec.toNat_and]; exact Nat.and_le_right
  have hm : ((BitVec.ofInt 64 m).toNat : Int) = m := by rw [BitVec.toNat_ofInt]; omega
  have e : bits .and .i64 x m = IntKind.i64.wrap ((BitVec.ofInt 64 x &&& BitVec.ofInt 64 m).toNat : Int) := rfl
  have hw : IntKind.i64.wrap ((BitVec.ofInt 64 x &&& BitVec.ofInt 64 m).toNat : Int) = ((BitVec.ofInt 64 x &&& BitVec.ofInt 64 m).toNat : Int) := IntWalk.i64_in _ (by omega)
  rw [e, hw]
  omega

/-! ### what stands behind is not looked at -/
theorem lead_app : ∀ (l X : List S37) (i j : Nat), lead l i = .ok j → lead (l ++ X) i = .ok j ∧ i < j ∧ j - i ≤ l.length
  | [], X, i, j, h => by simp [lead] at h
  | x :: r, X, i, j, h => by
    rw [lead] at h
    rw [List.cons_append, lead]
    cases hv : bitVal x with
    | none => rw [hv] at h; cases h
    | some b =>
      rw [hv] at h
      cases b with
      | true => simp only [Except.ok.injEq] at h ⊢; subst h; simp
      | false =>
        simp only at h ⊢
        obtain ⟨h1, h2, h3⟩ := lead_app r X (i + 1) j h
        exact ⟨h1, by omega, by simp; omega⟩
theorem nine_app : ∀ (n : Nat) (l X : List S37) (i : Nat) (b : Int) (o : Bool) (r : Int × Nat), nine n l i b o = .ok r → nine n (l ++ X) i b o = .ok r
  | 0, l, X, i, b, o, r, h => by rw [nine] at h ⊢; exact h
  | n + 1, [], X, i, b, o, r, h => by simp [nine] at h
  | n + 1, x :: l, X, i, b, o, r, h => by
    rw [nine] at h
    rw [List.cons_append, nine]
    cases hv : bitVal x with
    | none => rw [hv] at h; cases h
    | some c =>
      rw [hv] at h
      cases c with
      | true => simp only at h ⊢; exact nine_app n l X _ _ _ r h
      | false => simp only at h ⊢; exact nine_app n l X _ _ _ r h
theorem byte_app (l X : List S37) (i : Nat) (r : Int × Nat) (h : byteM l i = .ok r) : byteM (l ++ X) i = .ok r := by
  unfold byteM at h ⊢
  cases hl : lead (l.drop i) i with
  | error e => rw [hl] at h; cases h
  | ok j =>
    rw [hl] at h
    simp only at h
    obtain ⟨h1, h2, h3⟩ := lead_app _ X i j hl
    rw [List.length_drop] at h3
    have e1 : (l ++ X).drop i = l.drop i ++ X := List.drop_append_of_le_length (by omega)
    have e2 : (l ++ X).drop j = l.drop j ++ X := List.drop_append_of_le_length (by omega)
    rw [e1, h1]
    simp only
    rw [e2]
    exact nine_app _ _ _ _ _ _ _ h
theorem read_app : ∀ (n i : Nat) (l X : List S37) (acc r : List Int), readM l n i acc = .ok r → readM (l ++ X) n i acc = .ok r
  | 0, i, l, X, acc, r, h => h
  | n + 1, i, l, X, acc, r, h => by
    rw [readM] at h ⊢
    cases hb : byteM l i with
    | error e => rw [hb] at h; cases h
    | ok p =>
      obtain ⟨b, j⟩ := p
      rw [hb] at h
      rw [byte_app l X i _ hb]
      exact read_app n j l X _ r h

theorem read_first (l0 : List Int) (hb : ∀ x ∈ l0, 0 ≤ x ∧ x < 256) (a1 : Int) (k : Nat) (hk : k ≤ l0.length) (hk2 : k ≤ 16384) (X : List S37) :
    tape_Read.f ((wavesOf a1 l0).map waveS ++ X) (k : Int) = some (l0.take k, 0, 0) := by
  have e : wavesOf a1 l0 = List.replicate a1.toNat false ++ ((l0.take k).flatMap tenOf ++ (l0.drop k).flatMap tenOf) := by
    show List.replicate a1.toNat false ++ l0.flatMap tenOf = _
    rw [← List.flatMap_append, List.take_append_drop]
  have hlk : (l0.take k).length = k := by rw [List.length_take]; omega
  have := readM_ok (l0.take k) ((wavesOf a1 l0).map waveS) 0 a1.toNat 0 [] ((l0.drop k).flatMap tenOf) (fun x hx => hb x (List.mem_of_mem_take hx)) (by
    rw [List.drop_zero, ← e]; exact is_waves _)
  rw [hlk, Nat.add_zero] at this
  have h2 : readM ((wavesOf a1 l0).map waveS) k 0 [] = .ok (l0.take k) := by
    rw [this]
    by_cases hz : l0.take k = []
    · rw [if_pos hz, hz]; rfl
    · rw [if_neg hz]; rfl
  unfold tape_Read.f
  rw [if_neg (by omega), if_neg (by omega), Int.toNat_natCast, read_app _ _ _ X _ _ h2]

/-! ### Check, Spans, Heard -/
theorem cycles_some (x : List S44) (hx : x.length ≤ 4096) (k : Nat) : ∀ (d i : Nat) (acc : Int), x.length = i + d → ∃ r, script_Cycles.l0 (d + 1 + k) acc x (x.length : Int) (i : Int) = some r := by
  intro d
  induction d with
  | zero =>
    intro i acc h
    rw [show 0 + 1 + k = k + 1 by omega, script_Cycles.l0, if_neg (by omega)]
    split <;> exact ⟨_, rfl⟩
  | succ d ih =>
    intro i acc h
    rw [show d + 1 + 1 + k = (d + 1 + k) + 1 by omega, script_Cycles.l0, if_pos (by omega), if_pos (by omega), if_pos (by omega)]
    split
    · exact ⟨_, rfl⟩
    · split
      · exact ⟨_, rfl⟩
      · rw [show wrap64 ((i : Int) + 1) = ((i + 1 : Nat) : Int) by rw [w64 _ (by omega) (by omega)]; omega]
        exact ih (i + 1) _ (by omega)
theorem check_some (x : List S44) (k : Nat) (hk : 5000 ≤ k) : ∃ e, script_Check.f k x = some e := by
  unfold script_Check.f script_Cycles.f
  by_cases h : (x.length : Int) > 4096
  · rw [if_pos h]; exact ⟨_, rfl⟩
  · rw [if_neg h]
    obtain ⟨r, hr⟩ := cycles_some x (by omega) (k - x.length - 1) x.length 0 0 (by omega)
    rw [show x.length + 1 + (k - x.length - 1) = k by omega] at hr
    rw [show (0 : Int) = ((0 : Nat) : Int) from rfl] at *
    rw [hr]; exact ⟨_, rfl⟩

section
variable (a1 : Int) (a3 a4 a5 a6 a7 a8 : Bool) (a9 : Int)
def sp (c : Int) (t : Bool) : S44 := ⟨c, a1, t, a3, a4, a5, a6, a7, a8, a9⟩
def spans (L : List S37) : List S44 := L.flatMap fun w => [sp a1 a3 a4 a5 a6 a7 a8 a9 w.f0 true, sp a1 a3 a4 a5 a6 a7 a8 a9 w.f1 false]
theorem spans_len (L : List S37) : (spans a1 a3 a4 a5 a6 a7 a8 a9 L).length = 2 * L.length := by
  induction L with
  | nil => rfl
  | cons x L ih =>
    have : spans a1 a3 a4 a5 a6 a7 a8 a9 (x :: L) = sp a1 a3 a4 a5 a6 a7 a8 a9 x.f0 true :: sp a1 a3 a4 a5 a6 a7 a8 a9 x.f1 false :: spans a1 a3 a4 a5 a6 a7 a8 a9 L := rfl
    rw [this]; simp [ih]; omega
theorem spans_at (L : List S37) (m : Nat) (x : S37) (h : L[m]? = some x) : (spans a1 a3 a4 a5 a6 a7 a8 a9 L)[2 * m]? = some (sp a1 a3 a4 a5 a6 a7 a8 a9 x.f0 true) ∧ (spans a1 a3 a4 a5 a6 a7 a8 a9 L)[2 * m + 1]? = some (sp a1 a3 a4 a5 a6 a7 a8 a9 x.f1 false) := by
  induction L generalizing m with
  | nil => simp at h
  | cons y L ih =>
    have e : spans a1 a3 a4 a5 a6 a7 a8 a9 (y :: L) = sp a1 a3 a4 a5 a6 a7 a8 a9 y.f0 true :: sp a1 a3 a4 a5 a6 a7 a8 a9 y.f1 false :: spans a1 a3 a4 a5 a6 a7 a8 a9 L := rfl
    rw [e]
    cases m with
    | zero => simp at h; subst h; simp
    | succ m =>
      rw [List.getElem?_cons_succ] at h
      rw [show 2 * (m + 1) = 2 * m + 1 + 1 by omega]
      simp only [List.getElem?_cons_succ]
      exact ih m h
theorem spans_snoc (L : List S37) (x : S37) : spans a1 a3 a4 a5 a6 a7 a8 a9 (L ++ [x]) = spans a1 a3 a4 a5 a6 a7 a8 a9 L ++ [sp a1 a3 a4 a5 a6 a7 a8 a9 x.f0 true] ++ [sp a1 a3 a4 a5 a6 a7 a8 a9 x.f1 false] := by
  simp [spans, List.flatMap_append]

def WaveOk (x : S37) : Prop := 1 ≤ x.f0 ∧ x.f0 ≤ 1048576 ∧ 1 ≤ x.f1 ∧ x.f1 ≤ 1048576

theorem rd37_at {L : List S37} {i : Nat} {x : S37} (h : L[i]? = some x) : rd_T37 L (i : Int) = x := by unfold rd_T37; rw [Int.toNat_natCast, List.getD_eq_getElem?_getD, h]; rfl
theorem rd44_at {L : List S44} {i : Nat} {x : S44} (h : L[i]? = some x) : rd_T44 L (i : Int) = x := by unfold rd_T44; rw [Int.toNat_natCast, List.getD_eq_getElem?_getD, h]; rfl

theorem spans_l1 (L : List S37) (hL : L.length ≤ 2048) (k : Nat) : ∀ (d i : Nat) (a0 : Int) (a2 : Bool), L.length = i + d →
    tape_Spans.l1 (d + 1 + k) (spans a1 a3 a4 a5 a6 a7 a8 a9 (L.take i)) L (L.length : Int) (i : Int) a0 a1 a2 a3 a4 a5 a6 a7 a8 a9 =
      (script_Check.f k (spans a1 a3 a4 a5 a6 a7 a8 a9 L)).bind fun t => if t = 0 then some (spans a1 a3 a4 a5 a6 a7 a8 a9 L, 0) else some ([], t) := by
  intro d
  induction d with
  | zero =>
    intro i a0 a2 h
    rw [show 0 + 1 + k = k + 1 by omega, tape_Spans.l1, if_neg (by omega), List.take_of_length_le (by omega)]
  | succ d ih =>
    intro i a0 a2 h
    have hi : i < L.length := by omega
    have hlen := spans_len a1 a3 a4 a5 a6 a7 a8 a9 (L.take i)
    rw [List.length_take] at hlen
    rw [show d + 1 + 1 + k = (d + 1 + k) + 1 by omega, tape_Spans.l1, if_pos (by omega), if_pos (by omega), if_pos (by omega), if_pos (by omega), Option.bind_some, if_pos (by rw [List.length_append]; simp; omega)]
    rw [rd37_at (List.getElem?_eq_getElem hi), show wrap64 ((i : Int) + 1) = ((i + 1 : Nat) : Int) by rw [w64 _ (by omega) (by omega)]; omega]
    have := ih (i + 1) L[i].f1 false (by omega)
    rw [List.take_succ_eq_append_getElem hi, spans_snoc] at this
    exact this

theorem spans_l0 (L : List S37) (hL : L.length ≤ 2147483647 + 163840 + 16384) (k : Nat) : ∀ (d i : Nat) (a0 : Int) (a2 : Bool), L.length = i + d →
    ((∀ (n : Nat) (x : S37), i ≤ n → L[n]? = some x → WaveOk x) ∧
      tape_Spans.l0 (d + 1 + k) L L (L.length : Int) (i : Int) a0 a1 a2 a3 a4 a5 a6 a7 a8 a9 = if wrap64 (2 * (L.length : Int)) > 4096 then some ([], 2) else tape_Spans.l1 k [] L (L.length : Int) 0 a0 a1 a2 a3 a4 a5 a6 a7 a8 a9) ∨
      tape_Spans.l0 (d + 1 + k) L L (L.length : Int) (i : Int) a0 a1 a2 a3 a4 a5 a6 a7 a8 a9 = some ([], 1) := by
  intro d
  induction d with
  | zero =>
    intro i a0 a2 h
    refine .inl ⟨fun n x hn hx => ?_, ?_⟩
    · have := (List.getElem?_eq_some_iff.mp hx).1; omega
    · rw [show 0 + 1 + k = k + 1 by omega, tape_Spans.l0, if_neg (by omega)]
  | succ d ih =>
    intro i a0 a2 h
    have hi : i < L.length := by omega
    rw [show d + 1 + 1 + k = (d + 1 + k) + 1 by omega, tape_Spans.l0, if_pos (by omega), if_pos (by omega), if_pos (by omega), rd37_at (List.getElem?_eq_getElem hi)]
    by_cases h1 : L[i].f0 < 1
    · exact .inr (by rw [if_pos h1])
    rw [if_neg h1]
    by_cases h2 : L[i].f0 > 1048576
    · exact .inr (by rw [if_pos h2])
    rw [if_neg h2]
    by_cases h3 : L[i].f1 < 1
    · exact .inr (by rw [if_pos h3])
    rw [if_neg h3]
    by_cases h4 : L[i].f1 > 1048576
    · exact .inr (by rw [if_pos h4])
    rw [if_neg h4, show wrap64 ((i : Int) + 1) = ((i + 1 : Nat) : Int) by rw [w64 _ (by omega) (by omega)]; omega]
    rcases ih (i + 1) a0 a2 (by omega) with ⟨hg, e⟩ | e
    · refine .inl ⟨fun n x hn hx => ?_, e⟩
      by_cases hni : n = i
      · subst hni
        rw [List.getElem?_eq_getElem hi] at hx
        cases hx
        exact ⟨by omega, by omega, by omega, by omega⟩
      · exact hg n x (by omega) hx
    · exact .inr e

theorem heard_l0 (L : List S37) (hL : L.length ≤ 2048) (hg : ∀ (n : Nat) (x : S37), L[n]? = some x → WaveOk x) (k : Nat) : ∀ (d m : Nat), L.length = m + d →
    tape_Heard.l0 (6 * d + 1 + k) (spans a1 a3 a4 a5 a6 a7 a8 a9 L) (L.take m) (spans a1 a3 a4 a5 a6 a7 a8 a9 L) ((spans a1 a3 a4 a5 a6 a7 a8 a9 L).length : Int) ((2 * m : Nat) : Int) = some (L, 0) := by
  intro d
  have hlen := spans_len a1 a3 a4 a5 a6 a7 a8 a9 L
  induction d with
  | zero =>
    intro m h
    rw [show 6 * 0 + 1 + k = k + 1 by omega, tape_Heard.l0, if_neg (by omega), List.take_of_length_le (by omega)]
  | succ d ih =>
    intro m h
    have hm : m < L.length := by omega
    obtain ⟨s0, s1⟩ := spans_at a1 a3 a4 a5 a6 a7 a8 a9 L m _ (List.getElem?_eq_getElem hm)
    obtain ⟨g0, g1, g2, g3⟩ := hg m _ (List.getElem?_eq_getElem hm)
    have r0 := rd44_at s0
    have r1 := rd44_at s1
    have htl : (L.take m).length = m := by rw [List.length_take]; omega
    have hj : ∀ (z : S37), rd_T37 (L.take m ++ [z]) ((m : Nat) : Int) = z := fun z => rd37_at (by rw [List.getElem?_append_right (by omega), htl]; simp)
    have hs : ∀ (z y : S37), (L.take m ++ [z]).set m y = L.take m ++ [y] := fun z y => by rw [List.set_append_right _ _ (by omega), htl]; simp
    have hl1 : ∀ (z : S37), (((L.take m ++ [z]).length : Nat) : Int) = (m : Int) + 1 := fun z => by rw [List.length_append, htl]; simp
    have hw1 : wrap64 ((m : Int) + 1 - 1) = (m : Int) := by rw [w64 _ (by omega) (by omega)]; omega
    -- the wave's first half
    have first : tape_Heard.l0 (6 * (d + 1) + 1 + k) (spans a1 a3 a4 a5 a6 a7 a8 a9 L) (L.take m) (spans a1 a3 a4 a5 a6 a7 a8 a9 L) ((spans a1 a3 a4 a5 a6 a7 a8 a9 L).length : Int) ((2 * m : Nat) : Int)
        = tape_Heard.l0 (6 * d + 4 + k) (spans a1 a3 a4 a5 a6 a7 a8 a9 L) (L.take m ++ [⟨L[m].f0, 0⟩]) (spans a1 a3 a4 a5 a6 a7 a8 a9 L) ((spans a1 a3 a4 a5 a6 a7 a8 a9 L).length : Int) ((2 * m + 1 : Nat) : Int) := by
      have hj1 : tape_Heard.j1 (6 * d + 6 + k) (spans a1 a3 a4 a5 a6 a7 a8 a9 L) (L.take m) true (spans a1 a3 a4 a5 a6 a7 a8 a9 L) ((spans a1 a3 a4 a5 a6 a7 a8 a9 L).length : Int) ((2 * m : Nat) : Int) L[m].f0 a1 true a3 a4 a5 a6 a7 a8 a9
          = tape_Heard.l0 (6 * d + 4 + k) (spans a1 a3 a4 a5 a6 a7 a8 a9 L) (L.take m ++ [⟨L[m].f0, 0⟩]) (spans a1 a3 a4 a5 a6 a7 a8 a9 L) ((spans a1 a3 a4 a5 a6 a7 a8 a9 L).length : Int) ((2 * m + 1 : Nat) : Int) := by
        rw [show 6 * d + 6 + k = (6 * d + 4 + k + 1) + 1 by omega, tape_Heard.j1, if_pos rfl, if_pos (by omega), tape_Heard.j2, if_pos rfl]
        rw [hl1, hw1, if_pos (by omega), if_pos (by omega), Int.toNat_natCast, hs, hj]
        rw [show wrap64 (((2 * m : Nat) : Int) + 1) = ((2 * m + 1 : Nat) : Int) by rw [w64 _ (by omega) (by omega)]; omega]
        simp only [Int.zero_add]
        rw [w64 _ (by omega) (by omega)]
      rw [show 6 * (d + 1) + 1 + k = (6 * d + 6 + k) + 1 by omega, tape_Heard.l0, if_pos (by omega), if_pos (by omega), if_pos (by omega), r0]
      simp only [sp, if_true]
      by_cases hz : ((2 * m : Nat) : Int) = 0
      · rw [if_pos hz]; exact hj1
      · rw [if_neg hz]
        have hw : wrap64 (((2 * m : Nat) : Int) - 1) = ((2 * (m - 1) + 1 : Nat) : Int) := by rw [w64 _ (by omega) (by omega)]; omega
        have hm1 : m - 1 < L.length := by omega
        have r3 := rd44_at (spans_at a1 a3 a4 a5 a6 a7 a8 a9 L (m - 1) _ (List.getElem?_eq_getElem hm1)).2
        rw [hw, if_pos (by omega), if_pos (by omega), r3]
        simp only [sp, Bool.not_false]
        exact hj1
    have second : tape_Heard.l0 (6 * d + 4 + k) (spans a1 a3 a4 a5 a6 a7 a8 a9 L) (L.take m ++ [⟨L[m].f0, 0⟩]) (spans a1 a3 a4 a5 a6 a7 a8 a9 L) ((spans a1 a3 a4 a5 a6 a7 a8 a9 L).length : Int) ((2 * m + 1 : Nat) : Int)
        = tape_Heard.l0 (6 * d + 1 + k) (spans a1 a3 a4 a5 a6 a7 a8 a9 L) (L.take (m + 1)) (spans a1 a3 a4 a5 a6 a7 a8 a9 L) ((spans a1 a3 a4 a5 a6 a7 a8 a9 L).length : Int) ((2 * (m + 1) : Nat) : Int) := by
      rw [show 6 * d + 4 + k = (6 * d + 1 + k + 1 + 1) + 1 by omega, tape_Heard.l0, if_pos (by omega), if_pos (by omega), if_pos (by omega), r1]
      simp only [sp, Bool.false_eq_true, if_false]
      rw [tape_Heard.j1, if_neg (by decide), tape_Heard.j2, if_neg (by decide)]
      rw [hl1, hw1, if_pos (by omega), if_pos (by omega), if_pos (by omega), Int.toNat_natCast, hs, hj]
      rw [show wrap64 (((2 * m + 1 : Nat) : Int) + 1) = ((2 * (m + 1) : Nat) : Int) by rw [w64 _ (by omega) (by omega)]; omega]
      simp only [Int.zero_add]
      rw [w64 _ (by omega) (by omega), List.take_succ_eq_append_getElem hm]
    rw [first, second]
    exact ih (m + 1) (by omega)

theorem same_self (L : List S37) (hL : L.length ≤ 1000000000000) (k : Nat) : ∀ (d i : Nat), L.length = i + d → vesperref12_Same.l0 (d + 1 + k) L L (i : Int) = some true := by
  intro d
  induction d with
  | zero => intro i h; rw [show 0 + 1 + k = k + 1 by omega, vesperref12_Same.l0, if_neg (by omega)]
  | succ d ih =>
    intro i h
    rw [show d + 1 + 1 + k = (d + 1 + k) + 1 by omega, vesperref12_Same.l0, if_pos (by omega), if_pos (by omega), if_pos (by omega), if_neg (by simp)]
    rw [show wrap64 ((i : Int) + 1) = ((i + 1 : Nat) : Int) by rw [w64 _ (by omega) (by omega)]; omega]
    exact ih (i + 1) (by omega)

theorem played (L : List S37) (hL : L.length ≤ 2147483647 + 163840 + 16384) (a0 : Int) (a2 : Bool) : ∃ k, vesperlaw12_TapeBack.j1 k L false a0 a1 a2 a3 a4 a5 a6 a7 a8 a9 = some true := by
  -- rounds enough for all
  obtain ⟨e, hc⟩ := check_some (spans a1 a3 a4 a5 a6 a7 a8 a9 L) (20000 + L.length) (by omega)
  have h0 := spans_l0 a1 a3 a4 a5 a6 a7 a8 a9 L hL (L.length + 1 + (20000 + L.length)) L.length 0 a0 a2 (by omega)
  refine ⟨(L.length + 1 + (L.length + 1 + (20000 + L.length))) + 1, ?_⟩
  rw [vesperlaw12_TapeBack.j1, if_neg (by decide)]
  unfold tape_Spans.f
  have ha := awake_ok (L.length + 1 + (L.length + 1 + (20000 + L.length))) (by omega)
  rw [show ((0 : Nat) : Int) = 0 from rfl] at h0
  rcases h0 with ⟨hg, h0⟩ | h0
  · rw [h0]
    by_cases hbig : wrap64 (2 * (L.length : Int)) > 4096
    · rw [if_pos hbig, Option.bind_some, ha]; simp
    · rw [if_neg hbig]
      rw [w64 _ (by omega) (by omega)] at hbig
      have h1 := spans_l1 a1 a3 a4 a5 a6 a7 a8 a9 L (by omega) (20000 + L.length) L.length 0 a0 a2 (by omega)
      rw [List.take_zero, show ((0 : Nat) : Int) = 0 from rfl, show spans a1 a3 a4 a5 a6 a7 a8 a9 [] = [] from rfl, hc, Option.bind_some] at h1
      rw [h1]
      by_cases he : e = 0
      · rw [if_pos he, Option.bind_some]
        subst he
        have hc2 : script_Check.f (L.length + 1 + (L.length + 1 + (20000 + L.length))) (spans a1 a3 a4 a5 a6 a7 a8 a9 L) = some 0 := at_rounds (script_Check.mono _) (by omega) hc
        have hh := heard_l0 a1 a3 a4 a5 a6 a7 a8 a9 L (by omega) (fun n x hx => hg n x (by omega) hx) (20001 + 3 * L.length - 6 * L.length) L.length 0 (by omega)
        have hs := same_self L (by omega) (20002 + L.length + L.length - 1) L.length 0 (by omega)
        rw [show 6 * L.length + 1 + (20001 + 3 * L.length - 6 * L.length) = L.length + 1 + (L.length + 1 + (20000 + L.length)) by omega, List.take_zero, show ((2 * 0 : Nat) : Int) = 0 from rfl] at hh
        rw [show L.length + 1 + (20002 + L.length + L.length - 1) = L.length + 1 + (L.length + 1 + (20000 + L.length)) by omega, show ((0 : Nat) : Int) = 0 from rfl] at hs
        unfold tape_Heard.f vesperref12_Same.f
        simp only [if_true, hc2, Option.bind_some]
        rw [hh]
        simp only [if_true, Option.bind_some]
        rw [hs, ha]
        simp
      · rw [if_neg he, Option.bind_some, ha]
        simp [he]
  · rw [h0, Option.bind_some, ha]; simp
end

theorem TapeBack (l0 : List Int) (a1 : Int) (l2 : List S37) (a3 : Int) (s0 s1 : Int) (s2 s3 s4 s5 s6 s7 s8 : Bool) (s9 : Int) (hb : ∀ x ∈ l0, 0 ≤ x ∧ x < 256) : ∃ k, vesperlaw12_TapeBack.f k l0 a1 l2 a3 s0 s1 s2 s3 s4 s5 s6 s7 s8 s9 = some true := by
  unfold vesperlaw12_TapeBack.f
  by_cases h1 : (l0.length : Int) > 2147483647
  · exact ⟨1, by rw [if_pos h1, vesperlaw12_TapeBack.j0, if_pos rfl]⟩
  · by_cases h2 : (l2.length : Int) > 2147483647
    · exact ⟨1, by rw [if_neg h1, decide_eq_true h2, vesperlaw12_TapeBack.j0, if_pos rfl]⟩
    · simp only [if_neg h1, decide_eq_false h2]
      have hall : l0.all byteB = true := by
        rw [List.all_eq_true]; intro x hx; have := hb x hx; simp [byteB]; omega
      have ha := awake_ok 30 (by omega)
      by_cases h3 : l0.length > 16384
      · refine ⟨31, ?_⟩
        rw [vesperlaw12_TapeBack.j0, if_neg (by decide), show tape_Write.f l0 a1 = some ([], 2) by unfold tape_Write.f; rw [if_pos hall, if_pos h3], Option.bind_some, ha]
        simp
      · by_cases h4 : a1 < 0
        · refine ⟨31, ?_⟩
          rw [vesperlaw12_TapeBack.j0, if_neg (by decide), show tape_Write.f l0 a1 = some ([], 1) by unfold tape_Write.f; rw [if_pos hall, if_neg h3, if_pos h4], Option.bind_some, ha]
          simp
        · by_cases h5 : a1 > 16384
          · refine ⟨31, ?_⟩
            rw [vesperlaw12_TapeBack.j0, if_neg (by decide), show tape_Write.f l0 a1 = some ([], 1) by unfold tape_Write.f; rw [if_pos hall, if_neg h3, if_neg h4, if_pos h5], Option.bind_some, ha]
            simp
          · have hwl : ((wavesOf a1 l0).map waveS).length = a1.toNat + 10 * l0.length := by
              rw [List.length_map]; show (List.replicate a1.toNat false ++ l0.flatMap tenOf).length = _
              rw [List.length_append, List.length_replicate, flat_len]
            obtain ⟨k, hk⟩ := played s1 s3 s4 s5 s6 s7 s8 s9 ((wavesOf a1 l0).map waveS ++ l2) (by rw [List.length_append, hwl]; omega) s0 s2
            refine ⟨k + 1, ?_⟩
            rw [vesperlaw12_TapeBack.j0, if_neg (by decide), show tape_Write.f l0 a1 = some ((wavesOf a1 l0).map waveS, 0) by unfold tape_Write.f; rw [if_pos hall, if_neg h3, if_neg h4, if_neg h5], Option.bind_some, if_pos rfl]
            simp only
            rw [if_pos (by rw [hwl, w64 ((l0.length : Int) * 10) (by omega) (by omega), w64 _ (by omega) (by omega)]; omega), if_pos (by rw [hwl]; simp; omega), Option.bind_some]
            rw [if_pos (by rw [List.nil_append, hwl]; omega), Option.bind_some, w64 ((l0.length : Int) + 1) (by omega) (by omega), if_neg (by omega), List.nil_append]
            obtain ⟨b0, b1⟩ := and_range a3 65535 (by omega) (by omega)
            have t0 := Int.tmod_nonneg ((l0.length : Int) + 1) b0
            have t1 := Int.tmod_lt_of_pos (bits .and .i64 a3 65535) (show 0 < (l0.length : Int) + 1 by omega)
            generalize (bits .and .i64 a3 65535).tmod ((l0.length : Int) + 1) = t at t0 t1 ⊢
            obtain ⟨T, rfl⟩ := Int.eq_ofNat_of_zero_le t0
            have hr1 := read_first l0 hb a1 T (by omega) (by omega) l2
            have hr2 := read_first l0 hb a1 l0.length (by omega) (by omega) l2
            rw [hr1, Option.bind_some, hr2, Option.bind_some, List.take_length]
            simp only [if_true]
            rw [if_pos (by omega), if_pos (by omega), Int.toNat_natCast, if_pos rfl, bne_self_eq_false]
            exact hk
#print axioms TapeBack
end Go.Proofs.YtdibgdiiamcmfaaDoor.BackP
