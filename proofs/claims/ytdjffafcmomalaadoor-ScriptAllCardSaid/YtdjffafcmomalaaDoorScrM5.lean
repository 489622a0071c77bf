/- Texts of the Script seat, one behind another: ScrCheckL, ScrLentL, ScrLent. -/
import Derived.Test.YtdjffafcmomalaaDoorPScrx2
import Derived.Test.YtdjffafcmomalaaDoorPScrx3
import Derived.Test.YtdjffafcmomalaaDoorPScrx0
/- Check, Cycles, Mode and Same, of the program and of the document's answer: what they tell, plain. Conditions: each lemma's own. -/
set_option linter.unusedVariables false
set_option linter.unusedSimpArgs false
namespace Go.Proofs.YtdjffafcmomalaaDoor.Scr
open Go Go.RowKit
open Go.Proofs.YtdjffafcmomalaaDoorW.PrintWords Go.Proofs.YtdjffafcmomalaaDoor.PScr

def sumC (l : List S34) : Int := (l.map S34.f0).sum
theorem sumC_nil : sumC [] = 0 := rfl
theorem sumC_cons (s : S34) (l : List S34) : sumC (s :: l) = s.f0 + sumC l := rfl
theorem sumC_append (a b : List S34) : sumC (a ++ b) = sumC a + sumC b := by
  induction a with
  | nil => rw [List.nil_append, sumC_nil]; omega
  | cons s a ih => rw [List.cons_append, sumC_cons, sumC_cons, ih]; omega
def okC (s : S34) : Bool := decide (1 ≤ s.f0) && decide (s.f0 ≤ 1048576)
def cyclesR (l : List S34) : Int × Int := if l.length > 4096 then (0, 2) else if l.all okC = true then (if sumC l > 4194304 then (0, 70) else (sumC l, 0)) else (0, 70)
theorem rd_at (p : List S34) (s : S34) (d : List S34) : rd_T34 (p ++ s :: d) (p.length : Int) = s := by
  unfold rd_T34
  rw [Int.toNat_natCast, List.getD_eq_getElem?_getD, List.getElem?_append_right (Nat.le_refl _), Nat.sub_self]
  rfl
theorem w64 {a : Int} (h0 : -9223372036854775808 ≤ a) (h1 : a ≤ 9223372036854775807) : wrap64 a = a := by unfold wrap64; omega
theorem sumC_bounds : ∀ l : List S34, l.all okC = true → (l.length : Int) ≤ sumC l ∧ sumC l ≤ l.length * 1048576
  | [], _ => by rw [sumC_nil]; simp
  | s :: l, h => by
    simp only [List.all_cons, Bool.and_eq_true, okC, decide_eq_true_eq] at h
    have := sumC_bounds l h.2
    rw [sumC_cons, List.length_cons]
    omega
theorem cons_shift (p : List S34) (s : S34) (d : List S34) : p ++ s :: d = (p ++ [s]) ++ d := by simp
theorem okC_no {s : S34} (h : s.f0 < 1 ∨ s.f0 > 1048576) : okC s = false := by
  simp only [okC, Bool.and_eq_false_iff, decide_eq_false_iff_not]; omega
theorem okC_yes {s : S34} (h : ¬ s.f0 < 1) (h' : ¬ s.f0 > 1048576) : okC s = true := by
  simp only [okC, Bool.and_eq_true, decide_eq_true_eq]; omega

theorem cycles_l0 : ∀ (d p : List S34) (n : Int) (k : Nat), d.length < k → 0 ≤ n → n ≤ p.length * 1048576 → (p ++ d).length ≤ 4096 →
    script_Cycles.l0 k n (p ++ d) ((p ++ d).length : Nat) (p.length : Int) = some (if d.all okC = true then (if n + sumC d > 4194304 then (0, 70) else (n + sumC d, 0)) else (0, 70)) := by
  intro d
  induction d with
  | nil =>
    intro p n k hk h0 h1 hl
    obtain ⟨k, rfl⟩ : ∃ m, k = m + 1 := ⟨k - 1, by simp at hk; omega⟩
    rw [script_Cycles.l0, List.append_nil, if_neg (by omega), sumC_nil, Int.add_zero]
    simp only [List.all_nil, if_true]
    split <;> rfl
  | cons s d ih =>
    intro p n k hk h0 h1 hl
    obtain ⟨k, rfl⟩ : ∃ m, k = m + 1 := ⟨k - 1, by simp at hk; omega⟩
    have hl' : p.length + (d.length + 1) ≤ 4096 := by simpa using hl
    rw [script_Cycles.l0, rd_at, if_pos (by simp; omega), if_pos (by omega), if_pos (by simp; omega)]
    rw [List.all_cons]
    by_cases c1 : s.f0 < 1
    · rw [if_pos c1, okC_no (.inl c1)]; rfl
    rw [if_neg c1]
    by_cases c2 : s.f0 > 1048576
    · rw [if_pos c2, okC_no (.inr c2)]; rfl
    rw [if_neg c2, okC_yes c1 c2, w64 (by omega) (by omega), w64 (by omega) (by omega), sumC_cons, cons_shift]
    have := ih (p ++ [s]) (n + s.f0) k (by simp at hk; omega) (by omega) (by simp; omega) (by simp; omega)
    rw [show ((p ++ [s]).length : Int) = (p.length : Int) + 1 by simp] at this
    rw [this, Bool.true_and, Int.add_assoc]
theorem cycles_f (k : Nat) (l : List S34) (hk : 5000 ≤ k) : script_Cycles.f k l = some (cyclesR l) := by
  unfold script_Cycles.f cyclesR
  by_cases c : l.length > 4096
  · rw [if_pos (by omega), if_pos c]
  · rw [if_neg (by omega), if_neg c]
    have := cycles_l0 l [] 0 k (by omega) (by omega) (by simp) (by simpa using c)
    rw [List.nil_append, Int.zero_add] at this
    exact this
theorem check_f (k : Nat) (l : List S34) (hk : 5000 ≤ k) : script_Check.f k l = some (cyclesR l).2 := by
  unfold script_Check.f
  rw [cycles_f k l hk]; rfl

/-! ### The document's answer -/
theorem rcheck_l0 : ∀ (d p : List S34) (n : Int) (k : Nat), d.length < k → 0 ≤ n → n ≤ p.length * 1048576 → (p ++ d).length ≤ 4096 →
    vesperref07_Check.l0 k (p ++ d) n (p.length : Int) = some (if d.all okC = true then (if n + sumC d > 4194304 then 70 else 0) else 70) := by
  intro d
  induction d with
  | nil =>
    intro p n k hk h0 h1 hl
    obtain ⟨k, rfl⟩ : ∃ m, k = m + 1 := ⟨k - 1, by simp at hk; omega⟩
    rw [vesperref07_Check.l0, List.append_nil, if_neg (by omega), sumC_nil, Int.add_zero]
    simp only [List.all_nil, if_true]
    split <;> rfl
  | cons s d ih =>
    intro p n k hk h0 h1 hl
    obtain ⟨k, rfl⟩ : ∃ m, k = m + 1 := ⟨k - 1, by simp at hk; omega⟩
    have hl' : p.length + (d.length + 1) ≤ 4096 := by simpa using hl
    rw [vesperref07_Check.l0, rd_at, if_pos (by simp; omega), if_pos (by omega)]
    rw [List.all_cons]
    by_cases c1 : s.f0 < 1
    · rw [if_pos c1, okC_no (.inl c1)]; rfl
    rw [if_neg c1]
    by_cases c2 : s.f0 > 1048576
    · rw [if_pos c2, okC_no (.inr c2)]; rfl
    rw [if_neg c2, okC_yes c1 c2, w64 (by omega) (by omega), w64 (by omega) (by omega), sumC_cons, cons_shift]
    have := ih (p ++ [s]) (n + s.f0) k (by simp at hk; omega) (by omega) (by simp; omega) (by simp; omega)
    rw [show ((p ++ [s]).length : Int) = (p.length : Int) + 1 by simp] at this
    rw [this, Bool.true_and, Int.add_assoc]
theorem rcheck_f (k : Nat) (l : List S34) (hk : 5000 ≤ k) : vesperref07_Check.f k l = some (cyclesR l).2 := by
  unfold vesperref07_Check.f cyclesR
  by_cases c : l.length > 4096
  · rw [if_pos (by omega), if_pos c]
  · rw [if_neg (by omega), if_neg c]
    have := rcheck_l0 l [] 0 k (by omega) (by omega) (by simp) (by simpa using c)
    rw [List.nil_append, Int.zero_add] at this
    rw [show ((([] : List S34).length : Nat) : Int) = 0 from rfl] at this
    rw [this]
    split
    · split <;> rfl
    · rfl
theorem rcycles_l0 : ∀ (d p : List S34) (n : Int) (k : Nat), d.length < k → 0 ≤ n → n ≤ p.length * 1048576 → (p ++ d).length ≤ 4096 → d.all okC = true →
    vesperref07_Cycles.l0 k (p ++ d) n (p.length : Int) = some (n + sumC d, 0) := by
  intro d
  induction d with
  | nil =>
    intro p n k hk h0 h1 hl ha
    obtain ⟨k, rfl⟩ : ∃ m, k = m + 1 := ⟨k - 1, by simp at hk; omega⟩
    rw [vesperref07_Cycles.l0, List.append_nil, if_neg (by omega), sumC_nil, Int.add_zero]
  | cons s d ih =>
    intro p n k hk h0 h1 hl ha
    obtain ⟨k, rfl⟩ : ∃ m, k = m + 1 := ⟨k - 1, by simp at hk; omega⟩
    have hl' : p.length + (d.length + 1) ≤ 4096 := by simpa using hl
    simp only [List.all_cons, Bool.and_eq_true] at ha
    have hs := ha.1
    simp only [okC, Bool.and_eq_true, decide_eq_true_eq] at hs
    rw [vesperref07_Cycles.l0, rd_at, if_pos (by simp; omega), if_pos (by omega), w64 (by omega) (by omega), w64 (by omega) (by omega), sumC_cons, cons_shift]
    have := ih (p ++ [s]) (n + s.f0) k (by simp at hk; omega) (by omega) (by simp; omega) (by simp; omega) ha.2
    rw [show ((p ++ [s]).length : Int) = (p.length : Int) + 1 by simp] at this
    rw [this, Int.add_assoc]
theorem cyclesR_ok {l : List S34} (h : (cyclesR l).2 = 0) : l.length ≤ 4096 ∧ l.all okC = true ∧ sumC l ≤ 4194304 ∧ cyclesR l = (sumC l, 0) := by
  unfold cyclesR at h ⊢
  by_cases c : l.length > 4096
  · rw [if_pos c] at h; cases h
  · rw [if_neg c] at h ⊢
    by_cases c2 : l.all okC = true
    · rw [if_pos c2] at h ⊢
      by_cases c3 : sumC l > 4194304
      · rw [if_pos c3] at h; cases h
      · rw [if_neg c3]; exact ⟨by omega, c2, by omega, rfl⟩
    · rw [if_neg c2] at h; cases h
theorem cyclesR_mk {l : List S34} (h1 : l.length ≤ 4096) (h2 : l.all okC = true) (h3 : sumC l ≤ 4194304) : cyclesR l = (sumC l, 0) := by
  unfold cyclesR
  rw [if_neg (by omega), if_pos h2, if_neg (by omega)]
theorem cyclesR_bad {l : List S34} (h : (cyclesR l).2 ≠ 0) : cyclesR l = (0, (cyclesR l).2) := by
  unfold cyclesR at h ⊢
  by_cases c : l.length > 4096
  · rw [if_pos c]
  · rw [if_neg c] at h ⊢
    by_cases c2 : l.all okC = true
    · rw [if_pos c2] at h ⊢
      by_cases c3 : sumC l > 4194304
      · rw [if_pos c3]
      · rw [if_neg c3] at h; exact (h rfl).elim
    · rw [if_neg c2]
theorem rcycles_f (k : Nat) (l : List S34) (hk : 5000 ≤ k) : vesperref07_Cycles.f k l = some (cyclesR l) := by
  unfold vesperref07_Cycles.f
  rw [rcheck_f k l hk, Option.bind_some]
  by_cases c : (cyclesR l).2 = 0
  · obtain ⟨h1, h2, h3, h4⟩ := cyclesR_ok c
    have := rcycles_l0 l [] 0 k (by omega) (by omega) (by simp) (by simpa using h1) h2
    rw [List.nil_append, Int.zero_add, show ((([] : List S34).length : Nat) : Int) = 0 from rfl] at this
    rw [if_pos c, this, h4]
  · rw [if_neg c, ← cyclesR_bad c]
def modeR (s : S34) : Int := if s.f7 = true then (if s.f8 = true then 3 else 2) else (if s.f8 = true then 1 else 0)
theorem mode_f (k : Nat) (s : S34) : script_Mode.f (k + 1) s.f0 s.f1 s.f2 s.f3 s.f4 s.f5 s.f6 s.f7 s.f8 s.f9 = some (modeR s) := by
  unfold script_Mode.f modeR
  cases s.f7 <;> cases s.f8 <;> rfl
theorem rmode_f (k : Nat) (s : S34) : vesperref07_Mode.f (k + 1) s.f0 s.f1 s.f2 s.f3 s.f4 s.f5 s.f6 s.f7 s.f8 s.f9 = some (modeR s) := by
  unfold vesperref07_Mode.f modeR
  cases s.f7 <;> cases s.f8 <;> rfl

/-! ### Same -/
def eqb (a b : S34) : Bool := a.f0 == b.f0 && (a.f1 == b.f1 && (a.f2 == b.f2 && (a.f3 == b.f3 && (a.f4 == b.f4 && (a.f5 == b.f5 && (a.f6 == b.f6 && (a.f7 == b.f7 && (a.f8 == b.f8 && a.f9 == b.f9))))))))
theorem eqb_iff (a b : S34) : eqb a b = true ↔ a = b := by
  obtain ⟨a0, a1, a2, a3, a4, a5, a6, a7, a8, a9⟩ := a
  obtain ⟨b0, b1, b2, b3, b4, b5, b6, b7, b8, b9⟩ := b
  simp [eqb]
theorem neq_eqb (a b : S34) : (!(a.f0 == b.f0) || (!(a.f1 == b.f1) || (!(a.f2 == b.f2) || (!(a.f3 == b.f3) || (!(a.f4 == b.f4) || (!(a.f5 == b.f5) || (!(a.f6 == b.f6) || (!(a.f7 == b.f7) || (!(a.f8 == b.f8) || (!(a.f9 == b.f9))))))))))) = !(eqb a b) := by
  unfold eqb
  simp only [Bool.not_and]
def sameR : List S34 → List S34 → Bool
  | [], [] => true
  | a :: l, b :: m => eqb a b && sameR l m
  | _, _ => false
theorem sameR_iff : ∀ (l m : List S34), sameR l m = true ↔ l = m
  | [], [] => by simp [sameR]
  | [], b :: m => by simp [sameR]
  | a :: l, [] => by simp [sameR]
  | a :: l, b :: m => by simp [sameR, sameR_iff l m, eqb_iff]
theorem same_l0 : ∀ (d d' p p' : List S34) (k : Nat), d.length < k → p.length = p'.length → d.length = d'.length → p.length + d.length ≤ 1000000000000 →
    vesperref07_Same.l0 k (p ++ d) (p' ++ d') (p.length : Int) = some (sameR d d')
  | [], d', p, p', k, hk, hp, hd, hb => by
    obtain ⟨k, rfl⟩ : ∃ m, k = m + 1 := ⟨k - 1, by simp at hk; omega⟩
    obtain rfl : d' = [] := List.length_eq_zero_iff.1 hd.symm
    rw [vesperref07_Same.l0, List.append_nil, if_neg (by omega)]; rfl
  | s :: d, [], p, p', k, hk, hp, hd, hb => by simp at hd
  | s :: d, s' :: d', p, p', k, hk, hp, hd, hb => by
    obtain ⟨k, rfl⟩ : ∃ m, k = m + 1 := ⟨k - 1, by simp at hk; omega⟩
    have e2 : rd_T34 (p' ++ s' :: d') (p.length : Int) = s' := by rw [hp]; exact rd_at p' s' d'
    simp only [List.length_cons] at hd hb hk
    rw [vesperref07_Same.l0, rd_at, e2, if_pos (by simp; omega), if_pos (by omega), if_pos (by simp; omega), neq_eqb]
    by_cases c : eqb s s' = true
    · have := same_l0 d d' (p ++ [s]) (p' ++ [s']) k (by omega) (by simp [hp]) (by omega) (by simp; omega)
      rw [show ((p ++ [s]).length : Int) = (p.length : Int) + 1 by simp] at this
      rw [c, if_neg (by decide), w64 (by omega) (by omega), cons_shift p, cons_shift p', this, sameR, c, Bool.true_and]
    · rw [Bool.not_eq_true] at c
      rw [c, if_pos (by decide), sameR, c, Bool.false_and]
theorem sameR_len : ∀ (l m : List S34), l.length ≠ m.length → sameR l m = false
  | [], [], h => (h rfl).elim
  | [], b :: m, _ => rfl
  | a :: l, [], _ => rfl
  | a :: l, b :: m, h => by rw [sameR, sameR_len l m (fun e => h (by simp [e])), Bool.and_false]
theorem same_f (k : Nat) (l m : List S34) (hk : l.length < k) (hb : l.length ≤ 1000000000000) : vesperref07_Same.f k l m = some (sameR l m) := by
  unfold vesperref07_Same.f
  by_cases c : l.length = m.length
  · rw [if_pos (by omega)]
    exact same_l0 l m [] [] k hk rfl c (by simpa using hb)
  · rw [if_neg (by omega), sameR_len l m c]
theorem same_self (k : Nat) (l : List S34) (hk : l.length < k) (hb : l.length ≤ 1000000000000) : vesperref07_Same.f k l l = some true := by
  rw [same_f k l l hk hb, (sameR_iff l l).2 rfl]
end Go.Proofs.YtdjffafcmomalaaDoor.Scr
