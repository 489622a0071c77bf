/- A text cut at its first byte of a kind, plain. -/
import Derived.Lib.SplitLaws
import Derived.Test.YtjedbamcjgabpaaDoorPSox0
set_option linter.unusedVariables false
set_option linter.unusedSimpArgs false
namespace Go.Proofs.YtjedbamcjgabpaaDoor.Src
open Go Go.RowKit

/-- What stands ahead of the first d, what stands behind it, and whether there is one. -/
def cut1 (d : UInt8) : List UInt8 → List UInt8 × List UInt8 × Bool
  | [] => ([], [], false)
  | c :: l => if c = d then ([], l, true) else (c :: (cut1 d l).1, (cut1 d l).2.1, (cut1 d l).2.2)
theorem cut_one (d : UInt8) : ∀ l : List UInt8, Lib.cut l [d] = cut1 d l
  | [] => by simp [Lib.cut, Lib.index, cut1]
  | c :: l => by
    have ih := cut_one d l
    unfold cut1
    by_cases h : c = d
    · subst h
      rw [if_pos rfl]
      have hp : ([c] : List UInt8).isPrefixOf (c :: l) = true := by simp [List.isPrefixOf]
      have hix : Lib.index (c :: l) [c] = 0 := by rw [Lib.index, if_pos hp]
      unfold Lib.cut
      rw [hix]
      simp
    · rw [if_neg h, ← ih]
      have hp : ([d] : List UInt8).isPrefixOf (c :: l) = false := by simp [List.isPrefixOf]; exact fun e => h e.symm
      have hix : Lib.index (c :: l) [d] = if Lib.index l [d] == -1 then -1 else Lib.index l [d] + 1 := by rw [Lib.index, hp]; simp
      have hge := Lib.index_ge l [d]
      unfold Lib.cut
      rw [hix]
      by_cases hm : Lib.index l [d] = -1
      · rw [hm]; simp
      · rw [if_neg (fun e => hm (beq_iff_eq.1 e)), if_pos (by omega), if_pos (by omega)]
        obtain ⟨j, hj⟩ : ∃ j : Nat, Lib.index l [d] = j := ⟨(Lib.index l [d]).toNat, by omega⟩
        rw [hj]
        have e1 : ((j : Int) + 1).toNat = j + 1 := by omega
        rw [e1, Int.toNat_natCast]
        simp
theorem cut1_size (d : UInt8) : ∀ l : List UInt8, (cut1 d l).1.length ≤ l.length
  | [] => Nat.le_refl _
  | c :: l => by
    have := cut1_size d l
    unfold cut1
    split
    · simp
    · simp only [List.length_cons]; omega
end Go.Proofs.YtjedbamcjgabpaaDoor.Src
