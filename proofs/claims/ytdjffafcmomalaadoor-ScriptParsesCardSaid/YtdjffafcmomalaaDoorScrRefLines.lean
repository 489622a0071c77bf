/- vesperref07.Lines: what it tells, plain: the lines of linesL. -/
import Derived.Test.YtdjffafcmomalaaDoorScrSpanQ
import Derived.Test.YtdjffafcmomalaaDoorScrBackL
set_option linter.unusedVariables false
set_option linter.unusedSimpArgs false
namespace Go.Proofs.YtdjffafcmomalaaDoor.Scr
open Go Go.RowKit
open Go.Proofs.YtdjffafcmomalaaDoorW.PrintWords Go.Proofs.YtdjffafcmomalaaDoor.PScr

def linesR : List UInt8 → List UInt8 → List (List UInt8) × List UInt8
  | cur, [] => ([], cur)
  | cur, c :: r => if c = 10 then (cur :: (linesR [] r).1, (linesR [] r).2) else linesR (cur ++ [c]) r
theorem lines_l0 (x : ByteArray) (hx : x.size ≤ 100000) : ∀ (r a cur : List UInt8) (acc : List ByteArray) (k : Nat), x.data.toList = a ++ (cur ++ r) → r.length < k → acc.length + r.length ≤ 100000 →
    vesperref07_Lines.l0 k x acc (a.length : Int) ((a ++ cur).length : Int) = some (acc ++ (linesR cur r).1.map bt, bt (linesR cur r).2) := by
  intro r
  induction r with
  | nil =>
    intro a cur acc k h hk hb
    obtain ⟨k, rfl⟩ : ∃ j, k = j + 1 := ⟨k - 1, by omega⟩
    have hsz : x.size = a.length + cur.length := by
      have := congrArg List.length h
      rw [data_length] at this; simp at this; omega
    rw [vesperref07_Lines.l0, if_neg (by simp; omega), if_pos (by omega), if_pos (by omega), Int.toNat_natCast, show x.size = (a ++ cur).length by simp; omega, extract_at x a cur [] (by rw [h])]
    simp [linesR]
  | cons c r ih =>
    intro a cur acc k h hk hb
    simp only [List.length_cons] at hk hb
    obtain ⟨k, rfl⟩ : ∃ j, k = j + 1 := ⟨k - 1, by omega⟩
    have hsz : x.size = a.length + cur.length + (r.length + 1) := by
      have := congrArg List.length h
      rw [data_length] at this; simp at this; omega
    have hbt := bt_at x (a ++ cur) c r (by rw [h]; simp)
    rw [vesperref07_Lines.l0, hbt, if_pos (by simp; omega), if_pos (by omega)]
    have hw : wrap64 (((a ++ cur).length : Int) + 1) = ((a ++ (cur ++ [c])).length : Int) := by rw [w64 (by omega) (by simp; omega)]; simp; omega
    by_cases hc : c = 10
    · subst hc
      have hw2 : wrap64 (((a ++ cur).length : Int) + 1) = ((((a ++ cur) ++ [10]) ++ []).length : Int) := by rw [hw]; simp
      rw [if_pos (by decide), if_pos (by omega), if_pos (by simp; omega), if_pos (by simp; omega), if_pos (by omega), Int.toNat_natCast, Int.toNat_natCast, extract_at x a cur (10 :: r) (by rw [h])]
      conv => lhs; rw [hw2]
      have := ih ((a ++ cur) ++ [10]) [] (acc ++ [bt cur]) k (by rw [h]; simp) (by omega) (by simp; omega)
      rw [List.append_nil] at this ⊢
      rw [this, linesR, if_pos rfl]
      simp
    · have : ¬ ((c.toNat : Int) = 10) := fun e => hc (UInt8.toNat_inj.1 (show c.toNat = 10 by omega))
      rw [if_neg this, hw, ih a (cur ++ [c]) acc k (by rw [h]; simp) (by omega) (by omega), linesR, if_neg hc]
theorem lines_f (x : ByteArray) (hx : x.size ≤ 65536) (k : Nat) (hk : 70000 ≤ k) : vesperref07_Lines.f k x = some ((linesR [] x.data.toList).1.map bt, bt (linesR [] x.data.toList).2) := by
  have hl := data_length x
  have := lines_l0 x (by omega) x.data.toList [] [] [] k rfl (by omega) (by simp; omega)
  exact this
theorem line1_none : ∀ (a : List UInt8), (∀ x ∈ a, x ≠ 10) → line1L a = (a, [], false)
  | [], _ => rfl
  | c :: a, h => by
    rw [line1L, if_neg (h c List.mem_cons_self), line1_none a (fun x hx => h x (List.mem_cons_of_mem _ hx))]
theorem linesL_R : ∀ (r cur : List UInt8), (∀ x ∈ cur, x ≠ 10) → linesL (cur ++ r) = (linesR cur r).1.map (fun a => (bt a, true)) ++ (if (linesR cur r).2 = [] then [] else [(bt (linesR cur r).2, false)])
  | [], cur, h => by
    rw [List.append_nil]
    by_cases hc : cur = []
    · subst hc; rfl
    · rw [linesL_step cur hc, line1_none cur h]
      show _ = [] ++ (if cur = [] then [] else [(bt cur, false)])
      rw [if_neg hc]; rfl
  | c :: r, cur, h => by
    by_cases hc : c = 10
    · subst hc
      rw [linesL_step _ (by simp), line1_here cur r h, linesR, if_pos rfl]
      have ih := linesL_R r [] (by simp)
      rw [List.nil_append] at ih
      rw [ih]; rfl
    · rw [linesR, if_neg hc]
      have ih := linesL_R r (cur ++ [c]) (fun x hx => by
        rcases List.mem_append.1 hx with hx | hx
        · exact h x hx
        · rw [List.mem_singleton.1 hx]; exact hc)
      rw [← ih]; simp
theorem count_R : ∀ (r cur : List UInt8), (∀ x ∈ cur, x ≠ 10) → (cur ++ r).count 10 = (linesR cur r).1.length
  | [], cur, h => by
    rw [List.append_nil, List.count_eq_zero.2 (fun hm => h 10 hm rfl)]; rfl
  | c :: r, cur, h => by
    by_cases hc : c = 10
    · subst hc
      have ih := count_R r [] (by simp)
      rw [List.nil_append] at ih
      rw [linesR, if_pos rfl, List.count_append, List.count_cons_self, ih, List.count_eq_zero.2 (fun hm => h 10 hm rfl)]
      simp
    · rw [linesR, if_neg hc]
      have ih := count_R r (cur ++ [c]) (fun x hx => by
        rcases List.mem_append.1 hx with hx | hx
        · exact h x hx
        · rw [List.mem_singleton.1 hx]; exact hc)
      rw [← ih]; simp
theorem rest_R : ∀ (r cur : List UInt8), ((linesR cur r).2 = [] ↔ (cur ++ r = [] ∨ (r ≠ [] ∧ r.getLast? = some 10)))
  | [], cur => by simp [linesR]
  | c :: r, cur => by
    by_cases hc : c = 10
    · subst hc
      rw [linesR, if_pos rfl]
      have ih := rest_R r []
      simp only
      rw [ih]
      cases r with
      | nil => simp
      | cons d r => simp
    · rw [linesR, if_neg hc, rest_R r (cur ++ [c])]
      cases r with
      | nil => simp [hc]
      | cons d r => simp
theorem countL_R (t : List UInt8) : countL t = ((linesR [] t).1.length : Int) + (if (linesR [] t).2 = [] then 0 else 1) := by
  unfold countL Lib.countByte
  have h1 := count_R t [] (by simp)
  rw [List.nil_append] at h1
  rw [h1]
  have h2 := rest_R t []
  rw [List.nil_append] at h2
  have h3 : (t = [] ∨ Lib.hasSuffix t [10] = true) ↔ (linesR [] t).2 = [] := by
    rw [h2]
    unfold Lib.hasSuffix
    rw [List.isSuffixOf_iff_suffix]
    constructor
    · rintro (h | ⟨a, h⟩)
      · exact .inl h
      · subst h; right; exact ⟨by simp, by simp⟩
    · rintro (h | ⟨h, hl⟩)
      · exact .inl h
      · right
        obtain ⟨a, ha⟩ : ∃ a, t = a ++ [10] := by
          rcases List.eq_nil_or_concat t with rfl | ⟨a, b, rfl⟩
          · exact (h rfl).elim
          · rw [List.concat_eq_append] at hl ⊢
            simp at hl
            subst hl
            exact ⟨a, rfl⟩
        exact ⟨a, ha.symm⟩
  by_cases c : (linesR [] t).2 = []
  · rw [if_pos (h3.2 c), if_pos c]
  · rw [if_neg (fun h => c (h3.1 h)), if_neg c]
end Go.Proofs.YtdjffafcmomalaaDoor.Scr
