/- vesperref07.Print: what it tells, plain: what Print tells. Condition: spans of their kinds. -/
import Derived.Test.YtdjffafcmomalaaDoorScrM5
import Derived.Test.YtdjffafcmomalaaDoorPScrx6
set_option linter.unusedVariables false
set_option linter.unusedSimpArgs false
namespace Go.Proofs.YtdjffafcmomalaaDoor.Scr
open Go Go.RowKit
open Go.Proofs.YtdjffafcmomalaaDoorW.PrintWords Go.Proofs.YtdjffafcmomalaaDoor.PScr

/-- What Print tells, plain. -/
def printR (l : List S34) : ByteArray × Int := if (cyclesR l).2 = 0 then (if (printB l).length > 65536 then (⟨#[]⟩, 2) else (⟨(printB l).toArray⟩, 0)) else (⟨#[]⟩, (cyclesR l).2)
theorem print_f (l : List S34) (hk : l.all okS = true) : script_Print.f l = some (printR l) := by
  unfold script_Print.f printR
  rw [if_pos hk, check_f 5000 l (Nat.le_refl _), Option.bind_some]
  split
  · split <;> rfl
  · rfl
def numsOf (l : List UInt8) : List Int := l.map fun b => (b.toNat : Int)
theorem numsOf_str (l : List UInt8) : strOfNums (numsOf l) = ⟨l.toArray⟩ := by
  unfold strOfNums numsOf
  congr 1
  rw [List.map_map]
  congr 1
  conv => rhs; rw [← List.map_id l]
  refine List.map_congr_left fun x _ => ?_
  show UInt8.ofNat ((x.toNat : Int)).toNat = x
  rw [Int.toNat_natCast]; exact UInt8.ofNat_toNat
theorem rprint_l0 : ∀ (d p : List S34) (k : Nat), d.length < k → p.length + d.length ≤ 4096 → (p ++ d).all okS = true →
    vesperref07_Print.l0 k (p ++ d) (numsOf (printB p)) (p.length : Int) = some (if (printB (p ++ d)).length > 65536 then (⟨#[]⟩, 2) else (⟨(printB (p ++ d)).toArray⟩, 0)) := by
  intro d
  induction d with
  | nil =>
    intro p k hk hl ho
    obtain ⟨k, rfl⟩ : ∃ m, k = m + 1 := ⟨k - 1, by simp at hk; omega⟩
    rw [vesperref07_Print.l0, List.append_nil, if_neg (by omega), numsOf_str]
    have e : ((numsOf (printB p)).length : Int) = ((printB p).length : Int) := by simp [numsOf]
    rw [e]
    by_cases c : (printB p).length > 65536
    · rw [if_pos c, if_pos (by omega)]
    · rw [if_neg c, if_neg (by omega)]
  | cons s d ih =>
    intro p k hk hl ho
    obtain ⟨k, rfl⟩ : ∃ m, k = m + 1 := ⟨k - 1, by simp at hk; omega⟩
    simp only [List.length_cons] at hl hk
    have hs : okS s = true := List.all_eq_true.1 ho s (by simp)
    have hp : p.all okS = true := List.all_eq_true.2 fun x hx => List.all_eq_true.1 ho x (by simp [hx])
    have h1 := printB_len p hp
    have h2 := lineB_size s hs
    have hline : vesperref07_Line.f k s.f0 s.f1 s.f2 s.f3 s.f4 s.f5 s.f6 s.f7 s.f8 s.f9 = some (lineB s) := by
      unfold vesperref07_Line.f
      rw [if_pos hs]
    have e1 : (numsOf (printB p)).length = (printB p).length := by simp [numsOf]
    have e2 : numsOf (printB p) ++ bytesOf (lineB s) ++ [10] = numsOf (printB (p ++ [s])) := by
      rw [printB_snoc]
      simp [numsOf, bytesOf]
    have e3 : (numsOf (printB p) ++ bytesOf (lineB s)).length ≤ 1000000 := by
      rw [List.length_append, e1, bytesOf_length]; omega
    have := ih (p ++ [s]) k (by omega) (by simp; omega) (by rw [← cons_shift]; exact ho)
    rw [show ((p ++ [s]).length : Int) = (p.length : Int) + 1 by simp] at this
    rw [vesperref07_Print.l0, rd_at, if_pos (by simp; omega), if_pos (by omega), hline, Option.bind_some, if_pos (by omega), Option.bind_some, if_pos (by omega), e2, w64 (by omega) (by omega), cons_shift, this]
theorem rprint_f (k : Nat) (l : List S34) (hk : 5000 ≤ k) (ho : l.all okS = true) : vesperref07_Print.f k l = some (printR l) := by
  unfold vesperref07_Print.f printR
  rw [rcheck_f k l hk, Option.bind_some]
  by_cases c : (cyclesR l).2 = 0
  · rw [if_pos c, if_pos c]
    have hl := (cyclesR_ok c).1
    exact rprint_l0 l [] k (by omega) (by simpa using hl) ho
  · rw [if_neg c, if_neg c]
end Go.Proofs.YtdjffafcmomalaaDoor.Scr
