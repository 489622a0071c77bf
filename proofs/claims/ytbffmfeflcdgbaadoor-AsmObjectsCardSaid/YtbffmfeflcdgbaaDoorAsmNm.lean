/- source.name: a label's name. -/
import Derived.Test.YtbffmfeflcdgbaaDoorShelf
import Derived.Test.YtbffmfeflcdgbaaDoorPObx0
set_option linter.unusedVariables false
set_option linter.unusedSimpArgs false
namespace Go.Proofs.YtbffmfeflcdgbaaDoor.Nm
open Go Go.RowKit
open Go.Proofs.YtbffmfeflcdgbaaDoorW.PrintWords

def smallL : List UInt8 := [97, 98, 99, 100, 101, 102, 103, 104, 105, 106, 107, 108, 109, 110, 111, 112, 113, 114, 115, 116, 117, 118, 119, 120, 121, 122]
def othersL : List UInt8 := smallL ++ [48, 49, 50, 51, 52, 53, 54, 55, 56, 57, 45]
/-- Is a text a label's? -/
def nameB (s : ByteArray) : Bool := match s.data.toList with
 | [] => false
 | c :: r => decide (r.length < 16) && smallL.contains c && r.all othersL.contains

abbrev smallA : ByteArray := ⟨#[97, 98, 99, 100, 101, 102, 103, 104, 105, 106, 107, 108, 109, 110, 111, 112, 113, 114, 115, 116, 117, 118, 119, 120, 121, 122]⟩
abbrev othersA : ByteArray := ⟨#[97, 98, 99, 100, 101, 102, 103, 104, 105, 106, 107, 108, 109, 110, 111, 112, 113, 114, 115, 116, 117, 118, 119, 120, 121, 122, 48, 49, 50, 51, 52, 53, 54, 55, 56, 57, 45]⟩

theorem trimC (s : ByteArray) (w : World) (hs : s.size ≤ 100) : Calls Tryd.prog 50 #[.string s, .string othersA] w fun e w' => e = .returned (.string ⟨(Lib.trimS s.data.toList othersL).toArray⟩) ∧ Below w.heap.size w w' :=
 Any.strings_Trim_laid Tryd.lays160 (by kernel_rfl) s othersA w (by omega) (by decide) (ascii_of_all (by decide))


theorem containsC (c : UInt8) (w : World) : Calls Tryd.prog 49 #[.string smallA, .string ⟨#[c]⟩] w fun e w' => e = .returned (.bool (smallL.contains c)) ∧ w' = w := by
 refine (Tryd.strings_Contains_one smallA c w).mono fun e w' ⟨h1, h2⟩ => ⟨?_, h2⟩
 rw [h1, Lib.contains_iff_indexByte]
 rfl

theorem all_drop {α : Type} (p : α → Bool) : ∀ m : List α, (m.dropWhile p).all p = m.all p
 | [] => rfl
 | x :: m => by
  rw [List.dropWhile_cons]
  cases h : p x with
  | true => simp [h, all_drop p m]
  | false => simp [h]
theorem empty_drop {α : Type} (p : α → Bool) : ∀ m : List α, (m.dropWhile p).isEmpty = m.all p
 | [] => rfl
 | x :: m => by
  rw [List.dropWhile_cons]
  cases h : p x with
  | true => simp [h, ← empty_drop p m]
  | false => simp [h]
theorem trim_empty (l cs : List UInt8) : (Lib.trimS l cs).isEmpty = l.all cs.contains := by
 unfold Lib.trimS Lib.trimLeftS Lib.trimRightS
 rw [empty_drop, List.all_reverse, all_drop, List.all_reverse]
theorem small_others (c : UInt8) (h : smallL.contains c = true) : othersL.contains c = true := by
 have h2 : c ∈ smallL := by simpa using h
 have h3 : c ∈ othersL := List.mem_append_left _ h2
 simpa using h3

set_option maxRecDepth 100000 in
set_option maxHeartbeats 4000000 in
theorem name_calls (s : ByteArray) (w : World) : Calls Tryd.prog 39 #[.string s] w fun e w' => e = .returned (.bool (nameB s)) ∧ Below w.heap.size w w' := by
 have HB := Aside0.mk (Below.refl w.heap.size w)
 cases hd : s.data.toList with
 | nil => 
  obtain rfl : s = ⟨#[]⟩ := by rw [← Lib.mk_data s, hd]
  go_enter Tryd.func39, Tryd.ntmps39
  go_wp2
  go_ret
  exact ⟨rfl, HB.out⟩
 | cons c r =>
  have hn : nameB s = (decide (r.length < 16) && smallL.contains c && r.all othersL.contains) := by unfold nameB; rw [hd]
  have HN := Aside0.mk hn
  have hsz : s.size = r.length + 1 := by rw [Lib.size_eq, hd]; rfl
  have hne : s.toList.isEmpty = false := by rw [Lib.toList_data, hd]; rfl
  have hx : s.extract 0 1 = ⟨#[c]⟩ := by
   rw [← Lib.mk_data (s.extract 0 1)]
   simp [hd]
  clear hn
  have h4 : (1 : Int) ≤ s.size := by omega
  by_cases h1 : r.length < 16
  ·have h2 : (s.size : Int) ≤ 16 := by omega
   have h3 : s.size ≤ 100 := by omega
   have HT := Aside0.mk (trimC s w h3)
   have HC := Aside0.mk (containsC c w)
   have HD := Aside0.mk (decide_eq_true h1)
   cases hc : smallL.contains c with
   | false =>
    rw [hc] at HC
    have HE := Aside0.mk hc
    clear hc
    go_enter Tryd.func39, Tryd.ntmps39
    go_wp2_with (first | (go_at_call 49; (with_reducible refine HC.out.mono ?_); rintro e w1 ⟨rfl, rfl⟩))
    go_ret
    exact ⟨by rw [HN.out, HE.out, Bool.and_false, Bool.false_and]; rfl, HB.out⟩
   | true =>
    rw [hc] at HC
    have HE := Aside0.mk hc
    clear hc
    go_enter Tryd.func39, Tryd.ntmps39
    go_wp2_with (first | (go_at_call 49; (with_reducible refine HC.out.mono ?_); rintro e w1 ⟨rfl, rfl⟩) | (go_at_call 50; (with_reducible refine HT.out.mono ?_); rintro e w1 ⟨rfl, hb⟩))
    go_ret
    exact ⟨by rw [HN.out, HD.out, HE.out, Bool.true_and, Bool.true_and, show r.all othersL.contains = (Lib.trimS (c :: r) othersL).isEmpty from by rw [trim_empty, List.all_cons, small_others c HE.out, Bool.true_and]]; rfl, hb⟩
  have h2 : ¬ (s.size : Int) ≤ 16 := by omega
  have HD := Aside0.mk (decide_eq_false h1)
  go_enter Tryd.func39, Tryd.ntmps39
  go_wp2
  go_ret
  exact ⟨by rw [HN.out, HD.out, Bool.false_and, Bool.false_and]; rfl, HB.out⟩
end Go.Proofs.YtbffmfeflcdgbaaDoor.Nm
